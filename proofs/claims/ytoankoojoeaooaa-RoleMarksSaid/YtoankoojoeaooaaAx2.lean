/-
  AX, part 2: how the machine's values stand for the model's, in a world; what keeps that.
-/
import Derived.Test.YtoankoojoeaooaaAx1
import Derived.Laws.AppendOwn
import Derived.Deep.MidRow
namespace Go.AX

/-! ## What the machine's helpers say -/
theorem lsetK_iff {α : Type} (l : List α) (n : Nat) (v : α) (K : List α → Prop) : lsetK l n v K ↔ K (l.set n v) := by
  induction l generalizing n K with
  | nil => simp [lsetK]
  | cons x l ih => cases n <;> simp [lsetK, ih]

theorem dropK_iff {α : Type} (l : List α) (n : Nat) (K : List α → Prop) : dropK l n K ↔ K (l.drop n) := by
  induction l generalizing n with
  | nil => cases n <;> simp [dropK]
  | cons x l ih => cases n <;> simp [dropK, ih]

theorem takeK_iff {α : Type} (l : List α) (n : Nat) (K : List α → Prop) : takeK l n K ↔ K (l.take n) := by
  induction l generalizing n K with
  | nil => cases n <;> simp [takeK]
  | cons x l ih => cases n <;> simp [takeK, ih]

theorem overK_iff {α : Type} (cs : List α) (n : Nat) (vs : List α) (K : List α → Prop) :
    overK cs n vs K ↔ n + vs.length ≤ cs.length ∧ K (cs.take n ++ vs ++ cs.drop (n + vs.length)) := by
  induction cs generalizing n vs K with
  | nil => cases n <;> cases vs <;> simp [overK]
  | cons c cs ih =>
    cases n with
    | zero => cases vs <;> simp [overK, ih]
    | succ n => simp [overK, ih, Nat.add_right_comm]

@[simp] theorem onlyIf_iff (b : Bool) (P : Prop) : onlyIf b P ↔ b = true ∧ P := by cases b <;> simp [onlyIf]

theorem force_iff (a : AV) (K : AV → Prop) : a.force K ↔ K a := by cases a <;> rfl

theorem normK_iff (x : D) (K : D → Prop) : normK x K ↔ K x.norm := by
  cases x with
  | agg cs =>
    simp only [normK, D.norm]
    induction cs generalizing K with
    | nil => simp [mapK]
    | cons c cs ih =>
      simp only [mapK, List.map_cons]
      cases c <;> simp only <;> exact ih fun x => match x with
        | .agg l => K (.agg (_ :: l))
        | x => K x
  | _ => simp [normK, D.norm]

theorem findO_iff (ob : List (Option OB)) (r : Nat) (K : OB → Prop) : findO ob r K ↔ ∃ o, ob.getD r none = some o ∧ K o := by
  unfold findO
  cases ob.getD r none with
  | none => simp
  | some o => cases o <;> simp

theorem noO_iff (ob : List (Option OB)) (r : Nat) (K : Prop) : noO ob r K ↔ ob[r]? = some none ∧ K := by
  unfold noO
  cases ob[r]? with
  | none => simp
  | some o => cases o <;> simp

def aggF (cs : List AV) : AV := match allD cs with
  | some l => .d (.agg l)
  | none => .agg cs

theorem aggOf_iff (cs : List AV) (K : AV → Prop) : aggOf cs K ↔ K (aggF cs) := by
  unfold aggOf aggF
  cases allD cs <;> rfl

theorem allD_eq : ∀ (cs : List AV) (l : List D), allD cs = some l → cs = l.map .d
  | [], l, h => by simp [allD] at h; simp [← h]
  | a :: r, l, h => by
    cases a <;> simp [allD] at h
    rename_i x
    cases hr : allD r with
    | none => simp [hr] at h
    | some l' => simp [hr] at h; subst h; simp [allD_eq r l' hr]

def cellsDF : List D → Option (List AV)
  | [] => some []
  | c :: cs => match c.isAgg, cellsDF cs with
    | false, some l => some (.d c :: l)
    | _, _ => none

theorem cellsDF_eq : ∀ (cs : List D) (l : List AV), cellsDF cs = some l → l = cs.map .d ∧ ∀ c ∈ cs, c.isAgg = false
  | [], l, h => by simp [cellsDF] at h; simp [← h]
  | c :: cs, l, h => by
    simp only [cellsDF] at h
    split at h
    · rename_i l' h1 h2
      obtain ⟨g1, g2⟩ := cellsDF_eq cs l' h2
      simp only [Option.some.injEq] at h
      subst h g1
      refine ⟨rfl, fun x hx => ?_⟩
      cases hx with
      | head => exact h1
      | tail _ hx => exact g2 x hx
    · simp at h

def cellsF : AV → Option (List AV)
  | .d (.agg cs) => cellsDF cs
  | .d x => some [.d x]
  | .agg cs => some cs
  | .ref r o => some [.ref r o]
  | .own r n => some [.own r n]
  | .mp r => some [.mp r]
  | .fn f c => some [.fn f c]
  | _ => none

theorem cellsK_iff (a : AV) (K : List AV → Prop) : cellsK a K ↔ ∃ l, cellsF a = some l ∧ K l := by
  cases a with
  | d x =>
    cases x with
    | agg cs =>
      simp only [cellsK, cellsF]
      induction cs generalizing K with
      | nil => simp [mapK, cellsDF]
      | cons c cs ih =>
        cases c <;> simp only [mapK, ih, cellsDF, D.isAgg] <;> cases h : cellsDF cs <;> simp
    | _ => simp [cellsK, cellsF]
  | _ => simp [cellsK, cellsF]

/-! ## Values -/
abbrev Sc := Nat → Nat → Prop

def cellAt (w : World) (b o : Nat) : Option Value := w.cell? ⟨b, o, none⟩

inductive RepD (S : Sc) (w : World) : D → Value → Prop
  | val (v : Value) (h : v.oneCell' = true) : RepD S w (.val v) v
  | agg (cs : List D) (vs : Array Value) (f : Nat → Value) (hs : vs.size = cs.length) (hf : ∀ i, i < cs.length → vs[i]? = some (f i))
      (hn : ∀ i (hi : i < cs.length), cs[i].isAgg = false) (h : ∀ i (hi : i < cs.length), RepD S w cs[i] (f i)) : RepD S w (.agg cs) (.agg vs)
  | nil (sz : Nat) : RepD S w (.nil sz) (.slice none 0 0)
  | lst0 (sz : Nat) (a : Option Addr) (cap : Nat) : RepD S w (.lst sz []) (.slice a 0 cap)
  | lst (sz : Nat) (es : List D) (b o cap : Nat) (f : Nat → Nat → Value) (hl : es.length ≤ maxLen) (hc : es.length ≤ cap) (hsz : ∀ i (hi : i < es.length), es[i].cells.length = sz)
      (hS : ∀ i j, i < es.length → j < sz → S b (o + i * sz + j) ∧ cellAt w b (o + i * sz + j) = some (f i j))
      (hn : ∀ i (hi : i < es.length) j (hj : j < es[i].cells.length), es[i].cells[j].isAgg = false)
      (h : ∀ i (hi : i < es.length) j (hj : j < es[i].cells.length), RepD S w es[i].cells[j] (f i j)) : RepD S w (.lst sz es) (.slice (some ⟨b, o, none⟩) es.length cap)

/-- what a slice over a row is -/
def OwnV (φ : Nat → Option (Nat × Nat)) (r n : Nat) (v : Value) : Prop :=
  (φ r = none ∧ n = 0 ∧ v = .slice none 0 0) ∨ ∃ b cap, φ r = some (b, cap) ∧ v = .slice (some ⟨b, 0, none⟩) n cap

inductive RepA (S : Sc) (w : World) (φ : Nat → Option (Nat × Nat)) (ob : Nat → Option OB) : AV → Value → Prop
  | d (x : D) (v : Value) (h : RepD S w x v) : RepA S w φ ob (.d x) v
  | agg (cs : List AV) (vs : Array Value) (f : Nat → Value) (hs : vs.size = cs.length) (hf : ∀ i, i < cs.length → vs[i]? = some (f i))
      (hn : ∀ i (hi : i < cs.length), cs[i].one = true) (h : ∀ i (hi : i < cs.length), RepA S w φ ob cs[i] (f i)) : RepA S w φ ob (.agg cs) (.agg vs)
  | tup (cs : List AV) (vs : Array Value) (f : Nat → Value) (hs : vs.size = cs.length) (hf : ∀ i, i < cs.length → vs[i]? = some (f i))
      (h : ∀ i (hi : i < cs.length), RepA S w φ ob cs[i] (f i)) : RepA S w φ ob (.tup cs) (.tuple vs)
  | ref (r off b c : Nat) (h : φ r = some (b, c)) (hb : ∀ e sz es frz, ob r ≠ some (.row e sz es frz)) : RepA S w φ ob (.ref r off) (.pointer (some ⟨b, off, none⟩))
  | eref (cs : List D) (b o : Nat) (f : Nat → Value) (hS : ∀ j, j < cs.length → S b (o + j) ∧ cellAt w b (o + j) = some (f j))
      (hn : ∀ j (hj : j < cs.length), cs[j].isAgg = false) (h : ∀ j (hj : j < cs.length), RepD S w cs[j] (f j)) : RepA S w φ ob (.eref cs) (.pointer (some ⟨b, o, none⟩))
  | own (r n : Nat) (v : Value) (k c : Nat) (a0 : Option Addr) (hv : v = .slice a0 k c) (hk : k = n)
      (h : ∀ e sz es frz, ob r = some (.row e sz es frz) → n ≤ es.length ∧ (n = es.length → OwnV φ r n v)) (hb : ∀ cs, ob r = some (.box cs) → n = 1 ∧ ∃ b c, φ r = some (b, c) ∧ v = .slice (some ⟨b, 0, none⟩) 1 1) : RepA S w φ ob (.own r n) v
  | rref (r n i k : Nat) (v : Value) (h : ∀ e sz es frz, ob r = some (.row e sz es frz) → n ≤ es.length ∧ (n = es.length → i < n ∧ ∃ b c, φ r = some (b, c) ∧ v = .pointer (some ⟨b, i * sz + k, none⟩)))
      (hb : ∀ cs, ob r ≠ some (.box cs)) (hp : ∃ a, v = .pointer (some a)) : RepA S w φ ob (.rref r n i k) v
  | mp (r b c : Nat) (h : φ r = some (b, c)) (hb : ∀ e sz es frz, ob r ≠ some (.row e sz es frz)) (hc : ∀ cs, ob r ≠ some (.box cs)) : RepA S w φ ob (.mp r) (.map (some b))
  | fn (f : FuncId) (cs : List AV) (vs : Array Value) (g : Nat → Value) (hs : vs.size = cs.length) (hf : ∀ i, i < cs.length → vs[i]? = some (g i))
      (h : ∀ i (hi : i < cs.length), RepA S w φ ob cs[i] (g i)) : RepA S w φ ob (.fn f cs) (.func (.func f) #[] vs)
  | dead (v : Value) : RepA S w φ ob .dead v

/-- the stable cells are there, and hold what they held -/
def Keeps (S : Sc) (w : World) (S' : Sc) (w' : World) : Prop := ∀ b o, S b o → S' b o ∧ cellAt w' b o = cellAt w b o

theorem RepD.mono {S S' : Sc} {w w' : World} (hk : Keeps S w S' w') {x : D} {v : Value} (h : RepD S w x v) : RepD S' w' x v := by
  induction h with
  | val v h => exact .val v h
  | agg cs vs f hs hf hn _ ih => exact .agg cs vs f hs hf hn ih
  | nil sz => exact .nil sz
  | lst0 sz a cap => exact .lst0 sz a cap
  | lst sz es b o cap f hl hc hsz hS hn _ ih =>
    exact .lst sz es b o cap f hl hc hsz (fun i j hi hj => ⟨(hk _ _ (hS i j hi hj).1).1, (hk _ _ (hS i j hi hj).1).2.trans (hS i j hi hj).2⟩) hn ih

/-- a row's head -/
def hdr : Option OB → Option (Nat × Nat × Nat)
  | some (.row e sz es _) => some (e, sz, es.length)
  | _ => none

/-- a reference still means what it meant, or its row has grown -/
def RefOK (φ : Nat → Option (Nat × Nat)) (ob : Nat → Option OB) (φ' : Nat → Option (Nat × Nat)) (ob' : Nat → Option OB) (r : Nat) : Prop :=
  (φ' r = φ r ∧ hdr (ob' r) = hdr (ob r) ∧ ((∃ cs, ob' r = some (.box cs)) → ∃ cs, ob r = some (.box cs))) ∨
  ∃ e sz es frz es' frz', ob r = some (.row e sz es frz) ∧ ob' r = some (.row e sz es' frz') ∧ es.length ≤ es'.length ∧ (es'.length = es.length → φ' r = φ r)

theorem hdr_row {o : Option OB} {e sz : Nat} {es : List D} {frz : Bool} {o' : Option OB} (h : o' = some (.row e sz es frz)) (hh : hdr o' = hdr o) :
    ∃ es0 f, o = some (.row e sz es0 f) ∧ es0.length = es.length := by
  subst h
  cases o with
  | none => simp [hdr] at hh
  | some o =>
    cases o with
    | box cs => simp [hdr] at hh
    | map => simp [hdr] at hh
    | row e' sz' es' f => simp [hdr] at hh; exact ⟨es', f, by simp [hh], hh.2.2.symm⟩

theorem RepA.mono {S S' : Sc} {w w' : World} {φ φ' : Nat → Option (Nat × Nat)} {ob ob' : Nat → Option OB} (hk : Keeps S w S' w') {a : AV} {v : Value} (h : RepA S w φ ob a v)
    (hr : ∀ r, r ∈ a.refs → RefOK φ ob φ' ob' r) : RepA S' w' φ' ob' a v := by
  have hl : ∀ (cs : List AV) (i : Nat) (hi : i < cs.length) (r : Nat), r ∈ cs[i].refs → r ∈ AV.refs.refsL cs := by
    intro cs
    induction cs with
    | nil => intro i hi; simp at hi
    | cons c cs ih =>
      intro i hi r hm
      simp only [AV.refs.refsL, List.mem_append]
      cases i with
      | zero => exact .inl hm
      | succ i => exact .inr (ih i (by simpa using hi) r hm)
  induction h with
  | d x v h => exact .d x v (h.mono hk)
  | agg cs vs f hs hf hn _ ih => exact .agg cs vs f hs hf hn fun i hi => ih i hi fun r hm => hr r (hl cs i hi r hm)
  | tup cs vs f hs hf _ ih => exact .tup cs vs f hs hf fun i hi => ih i hi fun r hm => hr r (hl cs i hi r hm)
  | ref r off b c h hb =>
    rcases hr r (by simp [AV.refs]) with ⟨h1, h2, _⟩ | ⟨e, sz, es, frz, _, _, h1, _⟩
    · refine .ref r off b c (h1.trans h) fun e sz es frz hx => ?_
      obtain ⟨es0, f, h0, _⟩ := hdr_row hx h2
      exact hb _ _ _ _ h0
    · exact absurd h1 (hb _ _ _ _)
  | mp r b c h hb hc =>
    rcases hr r (by simp [AV.refs]) with ⟨h1, h2, h3⟩ | ⟨e, sz, es, frz, _, _, h1, _⟩
    · refine .mp r b c (h1.trans h) (fun e sz es frz hx => ?_) fun cs hx => ?_
      · obtain ⟨es0, f, h0, _⟩ := hdr_row hx h2
        exact hb _ _ _ _ h0
      · obtain ⟨cs', h'⟩ := h3 ⟨cs, hx⟩
        exact hc cs' h'
    · exact absurd h1 (hb _ _ _ _)
  | eref cs b o f hS hn h => exact .eref cs b o f (fun j hj => ⟨(hk _ _ (hS j hj).1).1, (hk _ _ (hS j hj).1).2.trans (hS j hj).2⟩) hn fun j hj => (h j hj).mono hk
  | own r n v k c a0 hv hkn h hb =>
    rcases hr r (by simp [AV.refs]) with ⟨h1, h2, h3⟩ | ⟨e, sz, es, frz, es', frz', h1, h2, h3, h4⟩
    · refine .own r n v k c a0 hv hkn (fun e sz es frz hx => ?_) fun cs hx => ?_
      · obtain ⟨es0, f, h0, hl0⟩ := hdr_row hx h2
        obtain ⟨g1, g2⟩ := h _ _ _ _ h0
        refine ⟨hl0 ▸ g1, fun hn => ?_⟩
        have := g2 (hl0 ▸ hn)
        unfold OwnV at *
        rwa [h1]
      · obtain ⟨cs', h'⟩ := h3 ⟨cs, hx⟩
        rw [h1]
        exact hb cs' h'
    · refine .own r n v k c a0 hv hkn (fun e0 sz0 es0 frz0 hx => ?_) fun cs hx => by rw [h2] at hx; simp at hx
      rw [h2] at hx
      simp only [Option.some.injEq, OB.row.injEq] at hx
      obtain ⟨rfl, rfl, rfl, rfl⟩ := hx
      obtain ⟨g1, g2⟩ := h _ _ _ _ h1
      refine ⟨Nat.le_trans g1 h3, fun hn => ?_⟩
      have he : es'.length = es.length := by omega
      have := g2 (by omega)
      unfold OwnV at *
      rwa [h4 he]
  | rref r n i k v h hb hp =>
    rcases hr r (by simp [AV.refs]) with ⟨h1, h2, h3⟩ | ⟨e, sz, es, frz, es', frz', h1, h2, h3, h4⟩
    · refine .rref r n i k v (fun e sz es frz hx => ?_) (fun cs hx => ?_) hp
      · obtain ⟨es0, f, h0, hl0⟩ := hdr_row hx h2
        obtain ⟨g1, g2⟩ := h _ _ _ _ h0
        refine ⟨hl0 ▸ g1, fun hn => ?_⟩
        have := g2 (hl0 ▸ hn)
        rwa [h1]
      · obtain ⟨cs', h'⟩ := h3 ⟨cs, hx⟩
        exact hb cs' h'
    · refine .rref r n i k v (fun e0 sz0 es0 frz0 hx => ?_) (fun cs hx => by rw [h2] at hx; simp at hx) hp
      rw [h2] at hx
      simp only [Option.some.injEq, OB.row.injEq] at hx
      obtain ⟨rfl, rfl, rfl, rfl⟩ := hx
      obtain ⟨g1, g2⟩ := h _ _ _ _ h1
      refine ⟨Nat.le_trans g1 h3, fun hn => ?_⟩
      have he : es'.length = es.length := by omega
      have := g2 (by omega)
      rwa [h4 he]
  | fn f cs vs g hs hf _ ih => exact .fn f cs vs g hs hf fun i hi => ih i hi fun r hm => hr r (hl cs i hi r hm)
  | dead v => exact .dead v

theorem RepD.one {S : Sc} {w : World} {x : D} {v : Value} (h : RepD S w x v) (hx : x.isAgg = false) : v.oneCell' = true := by
  cases h <;> first | assumption | rfl | simp [D.isAgg] at hx

theorem RepA.one {S : Sc} {w : World} {φ : Nat → Option (Nat × Nat)} {ob : Nat → Option OB} {a : AV} {v : Value} (h : RepA S w φ ob a v) (ha : a.one = true) : v.oneCell' = true := by
  cases h <;> simp [AV.one] at ha
  case d h => exact h.one ha
  case own => subst_vars; rfl
  case rref hp => obtain ⟨a, rfl⟩ := hp; rfl
  all_goals rfl

/-! ## Memory -/
structure Env where
  w0 : World
  S0 : Sc
  PB : Nat → Prop

def ObjOK (S : Sc) (w : World) (φ : Nat → Option (Nat × Nat)) (ob : Nat → Option OB) (r : Nat) : OB → Prop
  | .box cs => ∃ b c vs e, ∃ f : Nat → Value, φ r = some (b, c) ∧ w.heap[b]? = some (.cells vs e (0, 0)) ∧ vs.size = cs.length ∧ (∀ o, ¬ S b o) ∧
      (∀ j, j < cs.length → vs[j]? = some (f j)) ∧ (∀ j (hj : j < cs.length), cs[j].one = true ∧ RepA S w φ ob cs[j] (f j))
  | .row e sz es frz => 0 < sz ∧ (∀ i (hi : i < es.length), es[i].cells.length = sz) ∧ (∀ i (hi : i < es.length) j (hj : j < es[i].cells.length), es[i].cells[j].isAgg = false) ∧
      ((φ r = none ∧ es = []) ∨ ∃ b cap vs, ∃ f : Nat → Nat → Value, φ r = some (b, cap) ∧ w.heap[b]? = some (.cells vs e (0, 0)) ∧ es.length ≤ cap ∧ cap ≤ maxLen ∧ vs.size = cap * sz ∧
        (∀ i j, i < es.length → j < sz → vs[i * sz + j]? = some (f i j)) ∧ (∀ i (hi : i < es.length) j (hj : j < es[i].cells.length), RepD S w es[i].cells[j] (f i j)) ∧
        ∀ o, (if frz then es.length * sz else 0) ≤ o → ¬ S b o)
  | .map _ _ es => ∃ b c arr clock, φ r = some (b, c) ∧ w.heap[b]? = some (.map arr clock) ∧ arr.size = es.length ∧ (∀ o, ¬ S b o) ∧
      ∀ i (hi : i < es.length), ∃ x : MapEntry, arr[i]? = some x ∧ (∃ u, es[i].1 = .val u ∧ x.key = u ∧ u.oneCell' = true) ∧ RepD S w es[i].2 x.val

structure Mem (E : Env) (w : World) (S : Sc) (φ : Nat → Option (Nat × Nat)) (ob : Nat → Option OB) : Prop where
  obj : ∀ r o, ob r = some o → ObjOK S w φ ob r o
  inj : ∀ r r' b c c', ob r ≠ none → ob r' ≠ none → φ r = some (b, c) → φ r' = some (b, c') → r = r'
  men : ∀ r o, ob r = some o → ∀ r' ∈ o.refs, ob r' ≠ none
  sS : ∀ b o, E.S0 b o → S b o
  kS : ∀ b o, E.S0 b o → cellAt w b o = cellAt E.w0 b o
  bS : ∀ b o, S b o → b < w.heap.size
  nS : ∀ b o, S b o → b < E.w0.heap.size → ¬ E.PB b → E.S0 b o
  fr : ∀ b, b < E.w0.heap.size → ¬ E.PB b → w.heap[b]? = E.w0.heap[b]?
  sz : E.w0.heap.size ≤ w.heap.size
  ow : ∀ r b c, ob r ≠ none → φ r = some (b, c) → b < w.heap.size ∧ (E.w0.heap.size ≤ b ∨ E.PB b)
  os : w.os = E.w0.os ∧ w.output = E.w0.output ∧ w.tape = E.w0.tape

def Closed (ob : Nat → Option OB) (a : AV) : Prop := ∀ r ∈ a.refs, ob r ≠ none

/-- what a step keeps: every value that was there; every reference -/
structure Kept (w : World) (S : Sc) (φ : Nat → Option (Nat × Nat)) (ob : Nat → Option OB) (w' : World) (S' : Sc) (φ' : Nat → Option (Nat × Nat)) (ob' : Nat → Option OB) : Prop where
  k : Keeps S w S' w'
  r : ∀ r, ob r ≠ none → RefOK φ ob φ' ob' r
  c : ∀ r, ob r ≠ none → ob' r ≠ none

theorem Kept.rep {w w' : World} {S S' : Sc} {φ φ' : Nat → Option (Nat × Nat)} {ob ob' : Nat → Option OB} (h : Kept w S φ ob w' S' φ' ob') {a : AV} {v : Value}
    (hc : Closed ob a) (ha : RepA S w φ ob a v) : RepA S' w' φ' ob' a v := ha.mono h.k fun r hr => h.r r (hc r hr)

theorem Kept.closed {w w' : World} {S S' : Sc} {φ φ' : Nat → Option (Nat × Nat)} {ob ob' : Nat → Option OB} (h : Kept w S φ ob w' S' φ' ob') {a : AV}
    (hc : Closed ob a) : Closed ob' a := fun r hr => h.c r (hc r hr)

theorem RefOK.refl (φ : Nat → Option (Nat × Nat)) (ob : Nat → Option OB) (r : Nat) : RefOK φ ob φ ob r := .inl ⟨rfl, rfl, id⟩

theorem Kept.refl (w : World) (S : Sc) (φ : Nat → Option (Nat × Nat)) (ob : Nat → Option OB) : Kept w S φ ob w S φ ob :=
  ⟨fun _ _ h => ⟨h, rfl⟩, fun r _ => .refl φ ob r, fun _ h => h⟩

def upd {α : Type} (f : Nat → α) (r : Nat) (x : α) : Nat → α := fun i => if i = r then x else f i
@[simp] theorem upd_same {α : Type} (f : Nat → α) (r : Nat) (x : α) : upd f r x r = x := by simp [upd]
theorem upd_other {α : Type} (f : Nat → α) (r i : Nat) (x : α) (h : i ≠ r) : upd f r x i = f i := by simp [upd, h]

theorem cellAt_heap {w : World} {b : Nat} {vs : Array Value} {e : Nat} {fr : Nat × Nat} (h : w.heap[b]? = some (.cells vs e fr)) (o : Nat) : cellAt w b o = vs[o]? := by
  simp [cellAt, World.cell?, h]

theorem heap_alloc_of_lt (w : World) (o : Obj) {b : Nat} (h : b < w.heap.size) : (w.alloc o).heap[b]? = w.heap[b]? := by
  show (w.heap.push o)[b]? = _
  rw [Array.getElem?_push, if_neg (by omega)]

theorem lt_of_heap {w : World} {b : Nat} {o : Obj} (h : w.heap[b]? = some o) : b < w.heap.size := (Array.getElem?_eq_some_iff.1 h).1

theorem cellAt_of_heap {w w' : World} {b : Nat} (h : w'.heap[b]? = w.heap[b]?) (o : Nat) : cellAt w' b o = cellAt w b o := by simp [cellAt, World.cell?, h]

/-- An object is as it was, where its block is and what it holds is kept. -/
theorem ObjOK.keep {w w' : World} {S S' : Sc} {φ φ' : Nat → Option (Nat × Nat)} {ob ob' : Nat → Option OB} (hk : Kept w S φ ob w' S' φ' ob') {r : Nat} {o : OB}
    (h : ObjOK S w φ ob r o) (hφ : φ' r = φ r) (hb : ∀ b c, φ r = some (b, c) → w'.heap[b]? = w.heap[b]? ∧ ∀ o, S' b o → S b o) (hc : ∀ r' ∈ o.refs, ob r' ≠ none) : ObjOK S' w' φ' ob' r o := by
  cases o with
  | box cs =>
    obtain ⟨b, c, vs, e, f, h1, h2, h3, h4, h5, h6⟩ := h
    have hrefs : ∀ (cs : List AV) (j : Nat) (hj : j < cs.length) (r : Nat), r ∈ cs[j].refs → r ∈ AV.refs.refsL cs := by
      intro cs
      induction cs with
      | nil => intro i hi; simp at hi
      | cons c cs ih =>
        intro i hi r hm
        simp only [AV.refs.refsL, List.mem_append]
        cases i with
        | zero => exact .inl hm
        | succ i => exact .inr (ih i (by simpa using hi) r hm)
    exact ⟨b, c, vs, e, f, hφ.trans h1, (hb b c h1).1.trans h2, h3, fun o ho => h4 o ((hb b c h1).2 o ho), h5,
      fun j hj => ⟨(h6 j hj).1, hk.rep (fun r' hr' => hc r' (hrefs cs j hj r' hr')) (h6 j hj).2⟩⟩
  | row e sz es frz =>
    obtain ⟨h0, h1, h2, h3⟩ := h
    refine ⟨h0, h1, h2, h3.imp (fun g => ⟨hφ.trans g.1, g.2⟩) ?_⟩
    rintro ⟨b, cap, vs, f, g1, g2, g3, g4, g5, g6, g7, g8⟩
    exact ⟨b, cap, vs, f, hφ.trans g1, (hb b cap g1).1.trans g2, g3, g4, g5, g6, fun i hi j hj => (g7 i hi j hj).mono hk.k, fun o ho hs => g8 o ho ((hb b cap g1).2 o hs)⟩
  | map k e es =>
    obtain ⟨b, c, arr, clock, h1, h2, h3, h4, h5⟩ := h
    refine ⟨b, c, arr, clock, hφ.trans h1, (hb b c h1).1.trans h2, h3, fun o ho => h4 o ((hb b c h1).2 o ho), fun i hi => ?_⟩
    obtain ⟨x, g1, g2, g3⟩ := h5 i hi
    exact ⟨x, g1, g2, g3.mono hk.k⟩

/-- A new block for a reference that was free. -/
theorem Mem.allocO {E : Env} {w : World} {S : Sc} {φ : Nat → Option (Nat × Nat)} {ob : Nat → Option OB} (m : Mem E w S φ ob) (r cap : Nat) (x : OB) (q : Obj)
    (hr : ob r = none) (hx : ∀ r' ∈ x.refs, ob r' ≠ none)
    (hok : Kept w S φ ob (w.alloc q) S (upd φ r (some (w.heap.size, cap))) (upd ob r (some x)) → ObjOK S (w.alloc q) (upd φ r (some (w.heap.size, cap))) (upd ob r (some x)) r x) :
    Mem E (w.alloc q) S (upd φ r (some (w.heap.size, cap))) (upd ob r (some x)) ∧
    Kept w S φ ob (w.alloc q) S (upd φ r (some (w.heap.size, cap))) (upd ob r (some x)) := by
  have hlt : ∀ b, b < w.heap.size → (w.alloc q).heap[b]? = w.heap[b]? := fun b hb => heap_alloc_of_lt w _ hb
  have hne : ∀ r', ob r' ≠ none → r' ≠ r := fun r' h e => h (e ▸ hr)
  have hk : Kept w S φ ob (w.alloc q) S (upd φ r (some (w.heap.size, cap))) (upd ob r (some x)) := by
    refine ⟨fun b o h => ⟨h, cellAt_of_heap (hlt b (m.bS b o h)) o⟩, fun r' h => .inl ?_, fun r' h => ?_⟩
    · rw [upd_other _ _ _ _ (hne r' h), upd_other _ _ _ _ (hne r' h)]
      exact ⟨rfl, rfl, id⟩
    · rw [upd_other _ _ _ _ (hne r' h)]
      exact h
  refine ⟨⟨?_, ?_, ?_, m.sS, ?_, ?_, m.nS, ?_, ?_, ?_, m.os⟩, hk⟩
  · intro r' o h
    by_cases hh : r' = r
    · subst hh
      simp only [upd_same, Option.some.injEq] at h
      subst h
      exact hok hk
    · rw [upd_other _ _ _ _ hh] at h
      refine (m.obj r' o h).keep hk (upd_other _ _ _ _ hh) (fun b c hb => ⟨hlt b (m.ow r' b c (by simp [h]) hb).1, fun _ h => h⟩) (m.men r' o h)
  · intro r1 r2 b c c' h1 h2 g1 g2
    by_cases e1 : r1 = r
    · by_cases e2 : r2 = r
      · rw [e1, e2]
      · subst e1
        rw [upd_same] at g1
        rw [upd_other _ _ _ _ e2] at g2 h2
        simp only [Option.some.injEq, Prod.mk.injEq] at g1
        have := (m.ow r2 b c' h2 g2).1
        omega
    · by_cases e2 : r2 = r
      · subst e2
        rw [upd_same] at g2
        rw [upd_other _ _ _ _ e1] at g1 h1
        simp only [Option.some.injEq, Prod.mk.injEq] at g2
        have := (m.ow r1 b c h1 g1).1
        omega
      · rw [upd_other _ _ _ _ e1] at g1 h1
        rw [upd_other _ _ _ _ e2] at g2 h2
        exact m.inj r1 r2 b c c' h1 h2 g1 g2
  · intro r' o h r'' hm
    by_cases hh : r' = r
    · subst hh
      simp only [upd_same, Option.some.injEq] at h
      subst h
      exact hk.c _ (hx r'' hm)
    · rw [upd_other _ _ _ _ hh] at h
      exact hk.c _ (m.men r' o h r'' hm)
  · intro b o h
    exact (cellAt_of_heap (hlt b (m.bS b o (m.sS b o h))) o).trans (m.kS b o h)
  · intro b o h
    have := m.bS b o h
    simp
    omega
  · intro b h h'
    exact (hlt b (Nat.lt_of_lt_of_le h m.sz)).trans (m.fr b h h')
  · have := m.sz
    simp
    omega
  · intro r' b c h g
    by_cases hh : r' = r
    · subst hh
      simp only [upd_same, Option.some.injEq, Prod.mk.injEq] at g
      have := m.sz
      exact ⟨by simp; omega, .inl (by omega)⟩
    · rw [upd_other _ _ _ _ hh] at g h
      have := m.ow r' b c h g
      exact ⟨by simp; omega, this.2⟩

theorem Mem.alloc {E : Env} {w : World} {S : Sc} {φ : Nat → Option (Nat × Nat)} {ob : Nat → Option OB} (m : Mem E w S φ ob) (r cap : Nat) (x : OB) (vs : Array Value) (e : Nat)
    (hr : ob r = none) (hx : ∀ r' ∈ x.refs, ob r' ≠ none)
    (hok : Kept w S φ ob (w.alloc (.cells vs e)) S (upd φ r (some (w.heap.size, cap))) (upd ob r (some x)) → ObjOK S (w.alloc (.cells vs e)) (upd φ r (some (w.heap.size, cap))) (upd ob r (some x)) r x) :
    Mem E (w.alloc (.cells vs e)) S (upd φ r (some (w.heap.size, cap))) (upd ob r (some x)) ∧
    Kept w S φ ob (w.alloc (.cells vs e)) S (upd φ r (some (w.heap.size, cap))) (upd ob r (some x)) :=
  m.allocO r cap x (.cells vs e) hr hx hok

/-- A reference without a block: an empty row. -/
theorem Mem.empty {E : Env} {w : World} {S : Sc} {φ : Nat → Option (Nat × Nat)} {ob : Nat → Option OB} (m : Mem E w S φ ob) (r e sz : Nat) (hr : ob r = none) (hsz : 0 < sz) :
    Mem E w S (upd φ r none) (upd ob r (some (.row e sz [] false))) ∧ Kept w S φ ob w S (upd φ r none) (upd ob r (some (.row e sz [] false))) := by
  have hne : ∀ r', ob r' ≠ none → r' ≠ r := fun r' h e => h (e ▸ hr)
  have hk : Kept w S φ ob w S (upd φ r none) (upd ob r (some (.row e sz [] false))) := by
    refine ⟨fun b o h => ⟨h, rfl⟩, fun r' h => .inl ?_, fun r' h => ?_⟩
    · rw [upd_other _ _ _ _ (hne r' h), upd_other _ _ _ _ (hne r' h)]
      exact ⟨rfl, rfl, id⟩
    · rw [upd_other _ _ _ _ (hne r' h)]
      exact h
  refine ⟨⟨?_, ?_, ?_, m.sS, m.kS, m.bS, m.nS, m.fr, m.sz, ?_, m.os⟩, hk⟩
  · intro r' o h
    by_cases hh : r' = r
    · subst hh
      simp only [upd_same, Option.some.injEq] at h
      subst h
      exact ⟨hsz, fun i hi => by simp at hi, fun i hi => by simp at hi, .inl ⟨upd_same _ _ _, rfl⟩⟩
    · rw [upd_other _ _ _ _ hh] at h
      exact (m.obj r' o h).keep hk (upd_other _ _ _ _ hh) (fun b c hb => ⟨rfl, fun _ h => h⟩) (m.men r' o h)
  · intro r1 r2 b c c' h1 h2 g1 g2
    by_cases e1 : r1 = r
    · subst e1; simp at g1
    · by_cases e2 : r2 = r
      · subst e2; simp at g2
      · rw [upd_other _ _ _ _ e1] at g1 h1
        rw [upd_other _ _ _ _ e2] at g2 h2
        exact m.inj r1 r2 b c c' h1 h2 g1 g2
  · intro r' o h r'' hm
    by_cases hh : r' = r
    · subst hh
      simp only [upd_same, Option.some.injEq] at h
      subst h
      simp [OB.refs] at hm
    · rw [upd_other _ _ _ _ hh] at h
      exact hk.c _ (m.men r' o h r'' hm)
  · intro r' b c h g
    by_cases hh : r' = r
    · subst hh; simp at g
    · rw [upd_other _ _ _ _ hh] at g h
      exact m.ow r' b c h g

/-- An object's contents change, and perhaps its block. -/
theorem Mem.set {E : Env} {w : World} {S : Sc} {φ : Nat → Option (Nat × Nat)} {ob : Nat → Option OB} (m : Mem E w S φ ob) (r : Nat) (o0 x : OB) (w' : World) (l : Option (Nat × Nat))
    (h0 : ob r = some o0) (hw : ∀ k, k < w.heap.size → (∀ c, φ r ≠ some (k, c)) → w'.heap[k]? = w.heap[k]?) (hs : w.heap.size ≤ w'.heap.size)
    (hos : w'.os = w.os ∧ w'.output = w.output ∧ w'.tape = w.tape) (hkp : ∀ b c o, φ r = some (b, c) → S b o → cellAt w' b o = cellAt w b o)
    (hl : l = φ r ∨ ∃ b c, l = some (b, c) ∧ w.heap.size ≤ b ∧ b < w'.heap.size)
    (hr : RefOK φ ob (upd φ r l) (upd ob r (some x)) r) (hx : ∀ r' ∈ x.refs, ob r' ≠ none)
    (hok : Kept w S φ ob w' S (upd φ r l) (upd ob r (some x)) → ObjOK S w' (upd φ r l) (upd ob r (some x)) r x) :
    Mem E w' S (upd φ r l) (upd ob r (some x)) ∧ Kept w S φ ob w' S (upd φ r l) (upd ob r (some x)) := by
  have hk : Kept w S φ ob w' S (upd φ r l) (upd ob r (some x)) := by
    refine ⟨fun b o h => ⟨h, ?_⟩, fun r' h => ?_, fun r' h => ?_⟩
    · by_cases hb : ∃ c, φ r = some (b, c)
      · obtain ⟨c, hc⟩ := hb
        exact hkp b c o hc h
      · exact cellAt_of_heap (hw b (m.bS b o h) fun c hc => hb ⟨c, hc⟩) o
    · by_cases hh : r' = r
      · rw [hh]; exact hr
      · refine .inl ?_
        rw [upd_other _ _ _ _ hh, upd_other _ _ _ _ hh]
        exact ⟨rfl, rfl, id⟩
    · by_cases hh : r' = r
      · rw [hh]; simp
      · rw [upd_other _ _ _ _ hh]; exact h
  have hr0 : ob r ≠ none := by simp [h0]
  refine ⟨⟨?_, ?_, ?_, m.sS, ?_, ?_, m.nS, ?_, ?_, ?_, ?_⟩, hk⟩
  · intro r' o h
    by_cases hh : r' = r
    · subst hh
      simp only [upd_same, Option.some.injEq] at h
      subst h
      exact hok hk
    · rw [upd_other _ _ _ _ hh] at h
      refine (m.obj r' o h).keep hk (upd_other _ _ _ _ hh) (fun b c hb => ⟨hw b (m.ow r' b c (by simp [h]) hb).1 fun c' hc' => hh (m.inj r' r b c c' (by simp [h]) hr0 hb hc'), fun _ h => h⟩) (m.men r' o h)
  · intro r1 r2 b c c' h1 h2 g1 g2
    by_cases e1 : r1 = r
    · by_cases e2 : r2 = r
      · rw [e1, e2]
      · rw [e1, upd_same] at g1
        rw [upd_other _ _ _ _ e2] at g2 h2
        rcases hl with hl | ⟨b', c'', hl, hl2, _⟩
        · exact e1 ▸ m.inj r r2 b c c' hr0 h2 (hl ▸ g1) g2
        · rw [hl] at g1
          simp only [Option.some.injEq, Prod.mk.injEq] at g1
          have := (m.ow r2 b c' h2 g2).1
          omega
    · by_cases e2 : r2 = r
      · rw [e2, upd_same] at g2
        rw [upd_other _ _ _ _ e1] at g1 h1
        rcases hl with hl | ⟨b', c'', hl, hl2, _⟩
        · exact e2 ▸ m.inj r1 r b c c' h1 hr0 g1 (hl ▸ g2)
        · rw [hl] at g2
          simp only [Option.some.injEq, Prod.mk.injEq] at g2
          have := (m.ow r1 b c h1 g1).1
          omega
      · rw [upd_other _ _ _ _ e1] at g1 h1
        rw [upd_other _ _ _ _ e2] at g2 h2
        exact m.inj r1 r2 b c c' h1 h2 g1 g2
  · intro r' o h r'' hm
    by_cases hh : r' = r
    · subst hh
      simp only [upd_same, Option.some.injEq] at h
      subst h
      exact hk.c _ (hx r'' hm)
    · rw [upd_other _ _ _ _ hh] at h
      exact hk.c _ (m.men r' o h r'' hm)
  · intro b o h
    exact (hk.k b o (m.sS b o h)).2.trans (m.kS b o h)
  · intro b o h
    exact Nat.lt_of_lt_of_le (m.bS b o h) hs
  · intro b h h'
    refine (hw b (Nat.lt_of_lt_of_le h m.sz) fun c hc => ?_).trans (m.fr b h h')
    rcases (m.ow r b c hr0 hc).2 with g | g
    · omega
    · exact h' g
  · exact Nat.le_trans m.sz hs
  · intro r' b c h g
    by_cases hh : r' = r
    · subst hh
      rw [upd_same] at g
      rcases hl with hl | ⟨b', c', hl, hl2, hl3⟩
      · have := m.ow r' b c hr0 (hl ▸ g)
        exact ⟨by omega, this.2⟩
      · rw [hl] at g
        simp only [Option.some.injEq, Prod.mk.injEq] at g
        have := m.sz
        exact ⟨by omega, .inl (by omega)⟩
    · rw [upd_other _ _ _ _ hh] at g h
      have := m.ow r' b c h g
      exact ⟨by omega, this.2⟩
  · obtain ⟨a1, a2, a3⟩ := hos
    obtain ⟨b1, b2, b3⟩ := m.os
    exact ⟨a1.trans b1, a2.trans b2, a3.trans b3⟩

/-- A row is frozen: what it holds is data from here on. -/
theorem Mem.freeze {E : Env} {w : World} {S : Sc} {φ : Nat → Option (Nat × Nat)} {ob : Nat → Option OB} (m : Mem E w S φ ob) (r e sz : Nat) (es : List D) (frz : Bool)
    (h0 : ob r = some (.row e sz es frz)) : ∃ S', Mem E w S' φ (upd ob r (some (.row e sz es true))) ∧ Kept w S φ ob w S' φ (upd ob r (some (.row e sz es true))) ∧
      ∀ v, OwnV φ r es.length v → RepD S' w (.lst sz es) v := by
  let S' : Sc := fun b o => S b o ∨ ((∃ c, φ r = some (b, c)) ∧ o < es.length * sz)
  have hr0 : ob r ≠ none := by simp [h0]
  have hS : ∀ b o, S b o → S' b o := fun b o h => .inl h
  have hk : Kept w S φ ob w S' φ (upd ob r (some (.row e sz es true))) := by
    refine ⟨fun b o h => ⟨hS b o h, rfl⟩, fun r' h => ?_, fun r' h => ?_⟩
    · by_cases hh : r' = r
      · subst hh
        refine .inl ⟨rfl, ?_, ?_⟩
        · simp [h0, hdr]
        · rintro ⟨cs, hcs⟩; simp at hcs
      · refine .inl ?_
        rw [upd_other _ _ _ _ hh]
        exact ⟨rfl, rfl, id⟩
    · by_cases hh : r' = r
      · rw [hh]; simp
      · rw [upd_other _ _ _ _ hh]; exact h
  have hobj := m.obj r _ h0
  refine ⟨S', ⟨?_, ?_, ?_, fun b o h => hS b o (m.sS b o h), m.kS, ?_, ?_, m.fr, m.sz, ?_, m.os⟩, hk, ?_⟩
  · intro r' o h
    by_cases hh : r' = r
    · subst hh
      simp only [upd_same, Option.some.injEq] at h
      subst h
      obtain ⟨g0, g1, g2, g3⟩ := hobj
      refine ⟨g0, g1, g2, g3.imp id ?_⟩
      rintro ⟨b, cap, vs, f, f1, f2, f3, f4, f5, f6, f7, f8⟩
      refine ⟨b, cap, vs, f, f1, f2, f3, f4, f5, f6, fun i hi j hj => (f7 i hi j hj).mono hk.k, fun o ho hs => ?_⟩
      simp only [if_true] at ho
      rcases hs with hs | ⟨_, hs⟩
      · refine f8 o ?_ hs
        cases frz <;> simp
        exact ho
      · omega
    · rw [upd_other _ _ _ _ hh] at h
      refine (m.obj r' o h).keep hk rfl (fun b c hb => ⟨rfl, fun o ho => ?_⟩) (m.men r' o h)
      rcases ho with ho | ⟨⟨c', hc'⟩, _⟩
      · exact ho
      · exact absurd (m.inj r' r b c c' (by simp [h]) hr0 hb hc') hh
  · intro r1 r2 b c c' h1 h2 g1 g2
    refine m.inj r1 r2 b c c' ?_ ?_ g1 g2
    · by_cases e1 : r1 = r
      · rw [e1]; exact hr0
      · rwa [upd_other _ _ _ _ e1] at h1
    · by_cases e2 : r2 = r
      · rw [e2]; exact hr0
      · rwa [upd_other _ _ _ _ e2] at h2
  · intro r' o h r'' hm
    by_cases hh : r' = r
    · subst hh
      simp only [upd_same, Option.some.injEq] at h
      subst h
      simp [OB.refs] at hm
    · rw [upd_other _ _ _ _ hh] at h
      exact hk.c _ (m.men r' o h r'' hm)
  · intro b o h
    rcases h with h | ⟨⟨c, hc⟩, _⟩
    · exact m.bS b o h
    · exact (m.ow r b c hr0 hc).1
  · intro b o h h1 h2
    rcases h with h | ⟨⟨c, hc⟩, _⟩
    · exact m.nS b o h h1 h2
    · rcases (m.ow r b c hr0 hc).2 with g | g
      · omega
      · exact absurd g h2
  · intro r' b c h g
    refine m.ow r' b c ?_ g
    by_cases e1 : r' = r
    · rw [e1]; exact hr0
    · rwa [upd_other _ _ _ _ e1] at h
  · intro v hv
    obtain ⟨g0, g1, g2, g3⟩ := hobj
    rcases hv with ⟨a1, a2, rfl⟩ | ⟨b, cap, a1, rfl⟩
    · have : es = [] := List.eq_nil_of_length_eq_zero a2
      subst this
      exact .lst0 sz _ _
    · rcases g3 with ⟨b1, rfl⟩ | ⟨b', cap', vs, f, f1, f2, f3, f4, f5, f6, f7, f8⟩
      · rw [b1] at a1; simp at a1
      · rw [f1] at a1
        simp only [Option.some.injEq, Prod.mk.injEq] at a1
        obtain ⟨rfl, rfl⟩ := a1
        refine .lst sz es b' 0 cap' f (Nat.le_trans f3 f4) f3 g1 (fun i j hi hj => ⟨.inr ⟨⟨cap', f1⟩, ?_⟩, ?_⟩) g2 fun i hi j hj => (f7 i hi j hj).mono hk.k
        · have : (i + 1) * sz ≤ es.length * sz := Nat.mul_le_mul_right _ hi
          rw [Nat.add_mul] at this
          omega
        · rw [cellAt_heap f2, Nat.zero_add]
          exact f6 i j hi hj

theorem Kept.trans {w w' w'' : World} {S S' S'' : Sc} {φ φ' φ'' : Nat → Option (Nat × Nat)} {ob ob' ob'' : Nat → Option OB} (h : Kept w S φ ob w' S' φ' ob') (k : Kept w' S' φ' ob' w'' S'' φ'' ob'') :
    Kept w S φ ob w'' S'' φ'' ob'' := by
  refine ⟨fun b o hs => ⟨(k.k b o (h.k b o hs).1).1, (k.k b o (h.k b o hs).1).2.trans (h.k b o hs).2⟩, fun r hr => ?_, fun r hr => k.c r (h.c r hr)⟩
  rcases h.r r hr with ⟨a1, a2, a3⟩ | ⟨e, sz, es, frz, es', frz', a1, a2, a3, a4⟩
  · rcases k.r r (h.c r hr) with ⟨b1, b2, b3⟩ | ⟨e, sz, es, frz, es', frz', b1, b2, b3, b4⟩
    · exact .inl ⟨b1.trans a1, b2.trans a2, fun x => a3 (b3 x)⟩
    · obtain ⟨es0, f0, c1, c2⟩ := hdr_row b1 a2
      exact .inr ⟨e, sz, es0, f0, es', frz', c1, b2, by omega, fun hh => (b4 (by omega)).trans a1⟩
  · rcases k.r r (h.c r hr) with ⟨b1, b2, b3⟩ | ⟨e2, sz2, es2, frz2, es3, frz3, b1, b2, b3, b4⟩
    · obtain ⟨es0, f0, c1, c2⟩ : ∃ es0 f0, ob'' r = some (.row e sz es0 f0) ∧ es0.length = es'.length := by
        rw [a2] at b2
        cases h'' : ob'' r with
        | none => rw [h''] at b2; simp [hdr] at b2
        | some o =>
          rw [h''] at b2
          cases o with
          | box cs => simp [hdr] at b2
          | map => simp [hdr] at b2
          | row e' sz' es'' f => simp [hdr] at b2; exact ⟨es'', f, by simp [b2], b2.2.2⟩
      exact .inr ⟨e, sz, es, frz, es0, f0, a1, c1, by omega, fun hh => b1.trans (a4 (by omega))⟩
    · rw [a2] at b1
      simp only [Option.some.injEq, OB.row.injEq] at b1
      obtain ⟨rfl, rfl, rfl, rfl⟩ := b1
      exact .inr ⟨e, sz, es, frz, es3, frz3, a1, b2, by omega, fun hh => (b4 (by omega)).trans (a4 (by omega))⟩

end Go.AX
