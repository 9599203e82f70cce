/-
  AX, part 11: an operation's outcome hangs on its operands and on the references that they name, and on nothing else.
-/
import Derived.Test.YtoankoojoeaooaaAx10
namespace Go.AX

/-- the two tables agree at these references -/
def Agree (rs : List Nat) (ob ob' : List (Option OB)) : Prop := ∀ r ∈ rs, ob'[r]? = ob[r]?

theorem Agree.mono {rs rs' : List Nat} {ob ob' : List (Option OB)} (h : Agree rs ob ob') (hs : ∀ r ∈ rs', r ∈ rs) : Agree rs' ob ob' := fun r hr => h r (hs r hr)

theorem findO_x {ob : List (Option OB)} {r : Nat} {K : OB → Prop} (h : findO ob r K) : ∃ o, K o ∧ ∀ ob' : List (Option OB), ob'[r]? = ob[r]? → ∀ K' : OB → Prop, K' o → findO ob' r K' := by
  rw [findO_iff] at h
  obtain ⟨o, ho, h⟩ := h
  refine ⟨o, h, fun ob' ha K' hK => (findO_iff _ _ _).2 ⟨o, ?_, hK⟩⟩
  rw [List.getD_eq_getElem?_getD] at ho ⊢
  rw [ha]; exact ho

theorem noO_x {ob ob' : List (Option OB)} {r : Nat} {P Q : Prop} (h : noO ob r P) (ha : ob'[r]? = ob[r]?) (hq : Q) : noO ob' r Q := by
  rw [noO_iff] at h ⊢
  exact ⟨ha.trans h.1, hq⟩

theorem force_x {a : AV} {K : AV → Prop} (h : a.force K) : ∃ v, K v ∧ ∀ K' : AV → Prop, K' v → a.force K' := ⟨a, (force_iff _ _).1 h, fun K' hK => (force_iff _ _).2 hK⟩

theorem binK_x {T : TT} {op : BinOp} {t : Nat} {x y : AV} {K : AV → Prop} (h : binK T op t x y K) : ∃ v, K v ∧ ∀ K' : AV → Prop, K' v → binK T op t x y K' := by
  simp only [binK_eq] at h ⊢
  unfold binK0 at h ⊢
  split at h
  · obtain ⟨h1, r, h2, h3⟩ := h; exact ⟨_, h3, fun K' hK => ⟨h1, r, h2, hK⟩⟩
  · obtain ⟨h1, r, h2, h3⟩ := h; exact ⟨_, h3, fun K' hK => ⟨h1, r, h2, hK⟩⟩
  · exact ⟨_, h, fun K' hK => hK⟩
  · exact ⟨_, h, fun K' hK => hK⟩
  · exact ⟨_, h.2, fun K' hK => ⟨h.1, hK⟩⟩
  · rw [onlyIf_iff] at h
    obtain ⟨h0, h⟩ := h
    cases op <;> simp only at h
    case add => obtain ⟨r, h2, h3⟩ := h; exact ⟨_, h3, fun K' hK => (onlyIf_iff _ _).2 ⟨h0, r, h2, hK⟩⟩
    case sub => obtain ⟨r, h2, h3⟩ := h; exact ⟨_, h3, fun K' hK => (onlyIf_iff _ _).2 ⟨h0, r, h2, hK⟩⟩
    case mul => obtain ⟨r, h2, h3⟩ := h; exact ⟨_, h3, fun K' hK => (onlyIf_iff _ _).2 ⟨h0, r, h2, hK⟩⟩
    case quo => obtain ⟨h1, r, h2, h3⟩ := h; exact ⟨_, h3, fun K' hK => (onlyIf_iff _ _).2 ⟨h0, h1, r, h2, hK⟩⟩
    case rem => obtain ⟨h1, r, h2, h3⟩ := h; exact ⟨_, h3, fun K' hK => (onlyIf_iff _ _).2 ⟨h0, h1, r, h2, hK⟩⟩
    case and => obtain ⟨r, h2, h3⟩ := h; exact ⟨_, h3, fun K' hK => (onlyIf_iff _ _).2 ⟨h0, r, h2, hK⟩⟩
    case or => obtain ⟨r, h2, h3⟩ := h; exact ⟨_, h3, fun K' hK => (onlyIf_iff _ _).2 ⟨h0, r, h2, hK⟩⟩
    case xor => obtain ⟨r, h2, h3⟩ := h; exact ⟨_, h3, fun K' hK => (onlyIf_iff _ _).2 ⟨h0, r, h2, hK⟩⟩
    case andNot => obtain ⟨r, h2, h3⟩ := h; exact ⟨_, h3, fun K' hK => (onlyIf_iff _ _).2 ⟨h0, r, h2, hK⟩⟩
    case eql => exact ⟨_, h, fun K' hK => (onlyIf_iff _ _).2 ⟨h0, hK⟩⟩
    case neq => exact ⟨_, h, fun K' hK => (onlyIf_iff _ _).2 ⟨h0, hK⟩⟩
    case lss => exact ⟨_, h, fun K' hK => (onlyIf_iff _ _).2 ⟨h0, hK⟩⟩
    case leq => exact ⟨_, h, fun K' hK => (onlyIf_iff _ _).2 ⟨h0, hK⟩⟩
    case gtr => exact ⟨_, h, fun K' hK => (onlyIf_iff _ _).2 ⟨h0, hK⟩⟩
    case geq => exact ⟨_, h, fun K' hK => (onlyIf_iff _ _).2 ⟨h0, hK⟩⟩
    all_goals exact h.elim
  · split at h
    · exact ⟨_, h, fun K' hK => hK⟩
    · exact h.elim
  · split at h
    · exact ⟨_, h, fun K' hK => hK⟩
    · exact h.elim
  · exact h.elim

theorem unK_x {op : UnOp} {x : AV} {K : AV → Prop} (h : unK op x K) : ∃ v, K v ∧ ∀ K' : AV → Prop, K' v → unK op x K' := by
  unfold unK at h ⊢
  split at h
  · exact ⟨_, h, fun K' hK => hK⟩
  · obtain ⟨r, h2, h3⟩ := h; exact ⟨_, h3, fun K' hK => ⟨r, h2, hK⟩⟩
  · exact h.elim

theorem pickK_x {c a b : AV} {K : AV → Prop} (h : pickK c a b K) : ∃ v, K v ∧ ∀ K' : AV → Prop, K' v → pickK c a b K' := by
  unfold pickK at h ⊢
  split at h
  · split at h
    · exact ⟨_, h, fun K' hK => hK⟩
    · rename_i t _ _ hne
      cases t with
      | true => obtain ⟨v, h1, h2⟩ := force_x h; exact ⟨v, h1, fun K' hK => h2 K' hK⟩
      | false => obtain ⟨v, h1, h2⟩ := force_x h; exact ⟨v, h1, fun K' hK => h2 K' hK⟩
  · exact h.elim

theorem loadK_x {T : TT} {t : Nat} {a : AV} {ob : List (Option OB)} {K : AV → Prop} (h : loadK T t a ob K) :
    ∃ v, K v ∧ ∀ ob', Agree a.refs ob ob' → ∀ K' : AV → Prop, K' v → loadK T t a ob' K' := by
  cases a <;> simp only [loadK] at h ⊢
  case ref r off =>
    obtain ⟨o, h, ho⟩ := findO_x h
    cases o with
    | row => exact h.elim
    | map => exact h.elim
    | box cs =>
      simp only at h
      cases hcl : (T.get t).kind.cls with
      | none => simp [hcl] at h
      | some q =>
        cases q with
        | true =>
          simp only [hcl, dropK_iff, onlyIf_iff, takeK_iff, aggOf_iff] at h
          exact ⟨_, h.2, fun ob' ha K' hK => ho ob' (ha r (by simp [AV.refs])) _ (by simp only [dropK_iff, onlyIf_iff, takeK_iff, aggOf_iff]; exact ⟨h.1, hK⟩)⟩
        | false =>
          simp only [hcl] at h
          cases hg : cs[off]? with
          | none => simp [hg] at h
          | some x =>
            simp only [hg] at h
            obtain ⟨v, h1, h2⟩ := force_x h
            exact ⟨v, h1, fun ob' ha K' hK => ho ob' (ha r (by simp [AV.refs])) _ (by simp only [hg]; exact h2 K' hK)⟩
  case eref cs =>
    cases hcl : (T.get t).kind.cls with
    | none => simp [hcl] at h
    | some q =>
      cases q with
      | true =>
        simp only [hcl, onlyIf_iff, takeK_iff] at h
        exact ⟨_, h.2, fun ob' _ K' hK => by simp only [onlyIf_iff, takeK_iff]; exact ⟨h.1, hK⟩⟩
      | false =>
        simp only [hcl] at h
        cases hg : cs[0]? with
        | none => simp [hg] at h
        | some x =>
          simp only [hg] at h
          exact ⟨_, h, fun ob' _ K' hK => hK⟩
  case rref r n i k =>
    obtain ⟨o, h, ho⟩ := findO_x h
    cases o with
    | box => exact h.elim
    | map => exact h.elim
    | row e sz es frz =>
      simp only [dropK_iff] at h
      obtain ⟨hn, x, hx, h⟩ := h
      cases hcl : (T.get t).kind.cls with
      | none => simp [hcl] at h
      | some q =>
        cases q with
        | true =>
          simp only [hcl, onlyIf_iff, takeK_iff] at h
          exact ⟨_, h.2, fun ob' ha K' hK => ho ob' (ha r (by simp [AV.refs])) _ ⟨hn, x, hx, by simp only [dropK_iff, onlyIf_iff, takeK_iff]; exact ⟨h.1, hK⟩⟩⟩
        | false =>
          simp only [hcl] at h
          cases hg : (x.cells.drop k)[0]? with
          | none => simp [hg] at h
          | some y =>
            simp only [hg] at h
            exact ⟨_, h, fun ob' ha K' hK => ho ob' (ha r (by simp [AV.refs])) _ ⟨hn, x, hx, by simp only [dropK_iff, hg]; exact hK⟩⟩

theorem toD_x {ob : List (Option OB)} {a : AV} {K : D → W → Prop} (h : toD ob a K) :
    ∃ x w, K x w ∧ (∀ q ∈ w, q.1 ∈ a.refs) ∧ ∀ ob', Agree a.refs ob ob' → ∀ K' : D → W → Prop, K' x w → toD ob' a K' := by
  cases a <;> simp only [toD] at h ⊢
  case d x => exact ⟨_, _, (normK_iff _ _).1 h, fun q hq => by simp at hq, fun ob' _ K' hK => (normK_iff _ _).2 hK⟩
  case own r n =>
    obtain ⟨o, h, ho⟩ := findO_x h
    cases o with
    | box => exact h.elim
    | map => exact h.elim
    | row e sz es f => exact ⟨_, _, h.2, fun q hq => by simp only [List.mem_singleton] at hq; simp [hq, AV.refs], fun ob' ha K' hK => ho ob' (ha r (by simp [AV.refs])) _ ⟨h.1, hK⟩⟩
  case agg cs =>
    have key : ∀ (cs : List AV) (K : List D → W → Prop), toD.toDs ob cs K → ∃ l w, K l w ∧ (∀ q ∈ w, q.1 ∈ AV.refs.refsL cs) ∧ ∀ ob', Agree (AV.refs.refsL cs) ob ob' → ∀ K' : List D → W → Prop, K' l w → toD.toDs ob' cs K' := by
      intro cs
      induction cs with
      | nil => intro K h; exact ⟨_, _, h, fun q hq => by simp at hq, fun ob' _ K' hK => hK⟩
      | cons c cs ih =>
        intro K h
        cases c <;> simp only [toD.toDs] at h ⊢
        case d x =>
          cases x with
          | agg => exact h.elim
          | val u => obtain ⟨l, w, h1, hq, h2⟩ := ih _ h; exact ⟨_, w, h1, fun q hm => by simp [AV.refs.refsL, hq q hm], fun ob' ha K' hK => h2 ob' (ha.mono fun r hr => by simp [AV.refs.refsL, hr]) _ hK⟩
          | nil sz => obtain ⟨l, w, h1, hq, h2⟩ := ih _ h; exact ⟨_, w, h1, fun q hm => by simp [AV.refs.refsL, hq q hm], fun ob' ha K' hK => h2 ob' (ha.mono fun r hr => by simp [AV.refs.refsL, hr]) _ hK⟩
          | lst sz es => obtain ⟨l, w, h1, hq, h2⟩ := ih _ h; exact ⟨_, w, h1, fun q hm => by simp [AV.refs.refsL, hq q hm], fun ob' ha K' hK => h2 ob' (ha.mono fun r hr => by simp [AV.refs.refsL, hr]) _ hK⟩
        case own r n =>
          obtain ⟨o, h, ho⟩ := findO_x h
          cases o with
          | box => exact h.elim
          | map => exact h.elim
          | row e sz es f =>
            obtain ⟨hn, h⟩ := h
            obtain ⟨l, w, h1, hq, h2⟩ := ih _ h
            refine ⟨_, _, h1, fun q hm => ?_, fun ob' ha K' hK => ho ob' (ha r (by simp [AV.refs.refsL, AV.refs])) _ ⟨hn, h2 ob' (ha.mono fun r hr => by simp [AV.refs.refsL, hr]) _ hK⟩⟩
            simp only [List.mem_cons] at hm
            rcases hm with hm | hm
            · simp [hm, AV.refs.refsL, AV.refs]
            · simp [AV.refs.refsL, hq q hm]
    obtain ⟨l, w, h1, hq, h2⟩ := key cs _ h
    exact ⟨_, w, h1, hq, fun ob' ha K' hK => h2 ob' ha _ hK⟩

theorem rowStoreK_x {y x : D} {k : Nat} {K : D → Prop} (h : rowStoreK y k x K) : ∃ z, K z ∧ ∀ K' : D → Prop, K' z → rowStoreK y k x K' := by
  unfold rowStoreK at h ⊢
  simp only [normK_iff, overK_iff] at h ⊢
  obtain ⟨h0, h⟩ := h
  split at h
  · exact ⟨_, h, fun K' hK => ⟨h0, hK⟩⟩
  · split at h
    · rw [onlyIf_iff] at h
      exact ⟨_, h.2, fun K' hK => ⟨h0, (onlyIf_iff _ _).2 ⟨h.1, hK⟩⟩⟩
    · exact h.elim

theorem storeK_x {T : TT} {t : Nat} {a x : AV} {ob : List (Option OB)} {K : AV → W → Prop} (h : storeK T t a x ob K) :
    ∃ v w, K v w ∧ (∀ q ∈ w, q.1 ∈ a.refs) ∧ ∀ ob', Agree a.refs ob ob' → ∀ K' : AV → W → Prop, K' v w → storeK T t a x ob' K' := by
  unfold storeK at h ⊢
  rw [onlyIf_iff] at h
  obtain ⟨h0, h⟩ := h
  split at h
  · rename_i r off
    obtain ⟨o, h, ho⟩ := findO_x h
    cases o with
    | row => exact h.elim
    | map => exact h.elim
    | box cs =>
      simp only [cellsK_iff, onlyIf_iff, overK_iff] at h
      obtain ⟨l, hl, hsz, hle, h⟩ := h
      exact ⟨_, _, h, fun q hq => by simp only [List.mem_singleton] at hq; simp [hq, AV.refs], fun ob' ha K' hK => (onlyIf_iff _ _).2 ⟨h0, ho ob' (ha r (by simp [AV.refs])) _ (by simp only [cellsK_iff, onlyIf_iff, overK_iff]; exact ⟨l, hl, hsz, hle, hK⟩)⟩⟩
  · rename_i r n i k
    obtain ⟨o, h, ho⟩ := findO_x h
    cases o with
    | box => exact h.elim
    | map => exact h.elim
    | row e sz es f =>
      simp only at h
      obtain ⟨hn, hf, h⟩ := h
      cases x <;> simp only at h
      case d x =>
        rw [onlyIf_iff] at h
        obtain ⟨hsz, y, hy, h⟩ := h
        obtain ⟨z, ⟨zs, hzs, h⟩, hz⟩ := rowStoreK_x h
        exact ⟨_, _, h, fun q hq => by simp only [List.mem_singleton] at hq; simp [hq, AV.refs], fun ob' ha K' hK => (onlyIf_iff _ _).2 ⟨h0, ho ob' (ha r (by simp [AV.refs])) _ ⟨hn, hf, (onlyIf_iff _ _).2 ⟨hsz, y, hy, hz _ ⟨zs, hzs, hK⟩⟩⟩⟩⟩
  · exact h.elim

theorem go_x (place : Nat → Option (Nat × Nat)) : ∀ (ps : List (Nat × AV)) (cs : List AV) {K : List AV → Prop}, buildK.go place ps cs K → ∃ l, K l ∧ ∀ K' : List AV → Prop, K' l → buildK.go place ps cs K'
  | [], cs, K, h => ⟨_, h, fun K' hK => hK⟩
  | (i, v) :: ps, cs, K, h => by
    simp only [buildK.go] at h ⊢
    cases hp : place i with
    | none => simp [hp] at h
    | some q =>
      obtain ⟨off, size⟩ := q
      simp only [hp, cellsK_iff, onlyIf_iff, overK_iff] at h ⊢
      obtain ⟨l, hl, hsz, hle, h⟩ := h
      obtain ⟨l', h1, h2⟩ := go_x place ps _ h
      exact ⟨l', h1, fun K' hK => ⟨l, hl, hsz, hle, h2 K' hK⟩⟩

theorem buildK_x {T : TT} {t : Nat} {ps : List (Nat × AV)} {K : AV → Prop} (h : buildK T t ps K) : ∃ v, K v ∧ ∀ K' : AV → Prop, K' v → buildK T t ps K' := by
  unfold buildK at h ⊢
  split at h
  · obtain ⟨l, h1, h2⟩ := go_x _ _ _ h
    rw [aggOf_iff] at h1
    exact ⟨_, h1, fun K' hK => h2 _ ((aggOf_iff _ _).2 hK)⟩
  · rw [onlyIf_iff] at h
    obtain ⟨h0, h⟩ := h
    obtain ⟨l, h1, h2⟩ := go_x _ _ _ h
    rw [aggOf_iff] at h1
    exact ⟨_, h1, fun K' hK => (onlyIf_iff _ _).2 ⟨h0, h2 _ ((aggOf_iff _ _).2 hK)⟩⟩
  · exact h.elim

theorem elems_x {ob : List (Option OB)} {sz : Nat} : ∀ {ps : List (Nat × AV)} {i : Nat} {K : List D → W → Prop}, buildRowK.elems ob sz i ps K →
    ∃ l w, K l w ∧ (∀ q ∈ w, q.1 ∈ AV.refs.refsL (ps.map (·.2))) ∧ ∀ ob', Agree (AV.refs.refsL (ps.map (·.2))) ob ob' → ∀ K' : List D → W → Prop, K' l w → buildRowK.elems ob' sz i ps K'
  | [], i, K, h => ⟨_, _, h, fun q hq => by simp at hq, fun ob' _ K' hK => hK⟩
  | (j, v) :: ps, i, K, h => by
    simp only [buildRowK.elems] at h ⊢
    cases hb : Nat.beq i j with
    | false => simp [hb] at h
    | true =>
      simp only [hb] at h ⊢
      obtain ⟨x, w, h, hq1, hx⟩ := toD_x h
      rw [onlyIf_iff] at h
      obtain ⟨hsz, h⟩ := h
      obtain ⟨l, w', h1, hq2, h2⟩ := elems_x h
      exact ⟨_, _, h1, fun q hm => by
        simp only [List.map_cons, AV.refs.refsL, List.mem_append]
        rcases List.mem_append.1 hm with hm | hm
        · exact .inl (hq1 q hm)
        · exact .inr (hq2 q hm), fun ob' ha K' hK => hx ob' (ha.mono fun r hr => by simp [AV.refs.refsL, hr]) _ ((onlyIf_iff _ _).2 ⟨hsz, h2 ob' (ha.mono fun r hr => by simp only [List.map_cons, AV.refs.refsL, List.mem_append]; exact .inr hr) _ hK⟩)⟩

theorem buildRowK_x {T : TT} {t len self : Nat} {ps : List (Nat × AV)} {ob : List (Option OB)} {K : AV → W → Prop} (h : buildRowK T t len self ps ob K) :
    ∃ v w, K v w ∧ (∀ q ∈ w, q.1 ∈ self :: AV.refs.refsL (ps.map (·.2))) ∧ ∀ ob', Agree (self :: AV.refs.refsL (ps.map (·.2))) ob ob' → ∀ K' : AV → W → Prop, K' v w → buildRowK T t len self ps ob' K' := by
  unfold buildRowK at h ⊢
  split at h
  · have h0 := h
    rw [noO_iff, onlyIf_iff, onlyIf_iff] at h
    obtain ⟨hs, hc, hk, h⟩ := h
    obtain ⟨l, w, h1, hq, h2⟩ := elems_x h
    rw [onlyIf_iff] at h1
    exact ⟨_, _, h1.2, fun q hm => by
      rcases List.mem_append.1 hm with hm | hm
      · exact List.mem_cons_of_mem _ (hq q hm)
      · simp only [List.mem_singleton] at hm; simp [hm], fun ob' ha K' hK => noO_x h0 (ha self (by simp)) ((onlyIf_iff _ _).2 ⟨hc, (onlyIf_iff _ _).2 ⟨hk, h2 ob' (ha.mono fun r hr => by simp [hr]) _ ((onlyIf_iff _ _).2 ⟨h1.1, hK⟩)⟩⟩)⟩
  · exact h.elim

theorem buildBoxK_x {T : TT} {t len self : Nat} {cs : List AV} {ob : List (Option OB)} {K : AV → W → Prop} (h : buildBoxK T t len self cs ob K) :
    ∃ v w, K v w ∧ (∀ q ∈ w, q.1 ∈ [self]) ∧ ∀ ob', Agree [self] ob ob' → ∀ K' : AV → W → Prop, K' v w → buildBoxK T t len self cs ob' K' := by
  unfold buildBoxK at h ⊢
  split at h
  · have h0 := h
    rw [noO_iff, onlyIf_iff] at h
    obtain ⟨hs, hc, hK⟩ := h
    exact ⟨_, _, hK, fun q hm => by simp only [List.mem_singleton] at hm; simp [hm], fun ob' ha K' hK' => noO_x h0 (ha self (by simp)) ((onlyIf_iff _ _).2 ⟨hc, hK'⟩)⟩
  · exact h.elim

theorem buildSliceK_x {T : TT} {t len self : Nat} {ps : List (Nat × AV)} {ob : List (Option OB)} {K : AV → W → Prop} (h : buildSliceK T t len self ps ob K) :
    ∃ v w, K v w ∧ (∀ q ∈ w, q.1 ∈ self :: AV.refs.refsL (ps.map (·.2))) ∧ ∀ ob', Agree (self :: AV.refs.refsL (ps.map (·.2))) ob ob' → ∀ K' : AV → W → Prop, K' v w → buildSliceK T t len self ps ob' K' := by
  unfold buildSliceK at h ⊢
  split at h
  · rcases h with h | h
    · obtain ⟨v, w, h1, h2, h3⟩ := buildRowK_x h
      exact ⟨v, w, h1, h2, fun ob' ha K' hK => .inl (h3 ob' ha K' hK)⟩
    · obtain ⟨v, w, h1, h2, h3⟩ := buildBoxK_x h
      exact ⟨v, w, h1, fun q hq => by have := h2 q hq; simp only [List.mem_singleton] at this; simp [this], fun ob' ha K' hK => .inr (h3 ob' (ha.mono fun r hr => by simp only [List.mem_singleton] at hr; simp [hr]) K' hK)⟩
  · exact buildRowK_x h

theorem srcK_x {ob : List (Option OB)} {y : AV} {K : Nat → List D → Prop} (h : srcK ob y K) : ∃ sz es, K sz es ∧ ∀ ob', Agree y.refs ob ob' → ∀ K' : Nat → List D → Prop, K' sz es → srcK ob' y K' := by
  unfold srcK at h ⊢
  split at h
  · exact ⟨_, _, h, fun ob' _ K' hK => hK⟩
  · exact ⟨_, _, h, fun ob' _ K' hK => hK⟩
  · rename_i r n
    obtain ⟨o, h, ho⟩ := findO_x h
    cases o with
    | box => exact h.elim
    | map => exact h.elim
    | row e sz es f => exact ⟨_, _, h.2, fun ob' ha K' hK => ho ob' (ha r (by simp [AV.refs])) _ ⟨h.1, hK⟩⟩
  · exact h.elim

theorem appendK_x {T : TT} {st self : Nat} {x y : AV} {ob : List (Option OB)} {K : AV → W → Prop} (h : appendK T st self x y ob K) :
    ∃ v w, K v w ∧ (∀ q ∈ w, q.1 ∈ self :: (x.refs ++ y.refs)) ∧ ∀ ob', Agree (self :: (x.refs ++ y.refs)) ob ob' → ∀ K' : AV → W → Prop, K' v w → appendK T st self x y ob' K' := by
  unfold appendK at h ⊢
  split at h
  · obtain ⟨sz', ys, h, hy⟩ := srcK_x h
    split at h
    · have h0 := h
      rw [noO_iff, onlyIf_iff, onlyIf_iff] at h
      obtain ⟨hs, hc, hk, hb, h⟩ := h
      exact ⟨_, _, h, fun q hq => by simp only [List.mem_singleton] at hq; simp [hq], fun ob' ha K' hK => hy ob' (ha.mono fun r hr => by simp [hr]) _ (noO_x h0 (ha self (by simp)) ((onlyIf_iff _ _).2 ⟨hc, (onlyIf_iff _ _).2 ⟨hk, hb, hK⟩⟩))⟩
    · rename_i r n _
      obtain ⟨o, h, ho⟩ := findO_x h
      cases o with
      | box => exact h.elim
      | map => exact h.elim
      | row e' sz es f =>
        simp only [onlyIf_iff] at h
        obtain ⟨hc, hk, hn, hb, zs, hz, h⟩ := h
        exact ⟨_, _, h, fun q hq => by simp only [List.mem_singleton] at hq; simp [hq, AV.refs], fun ob' ha K' hK => hy ob' (ha.mono fun r hr => by simp [hr]) _ (ho ob' (ha r (by simp [AV.refs])) _ ((onlyIf_iff _ _).2 ⟨hc, (onlyIf_iff _ _).2 ⟨hk, hn, hb, zs, hz, hK⟩⟩))⟩
    · exact h.elim
  · exact h.elim

theorem lenK_x {T : TT} {t : Nat} {x : AV} {K : AV → Prop} (h : lenK T t x K) : ∃ v, K v ∧ ∀ K' : AV → Prop, K' v → lenK T t x K' := by
  unfold lenK at h ⊢
  split at h <;> first | exact ⟨_, h, fun K' hK => hK⟩ | exact h.elim | (obtain ⟨n, hn, h⟩ := h; exact ⟨_, h, fun K' hK => ⟨n, hn, hK⟩⟩)

theorem lookK_x {T : TT} {t : Nat} {x key : AV} {ok : Bool} {ob : List (Option OB)} {K : AV → Prop} (h : lookK T t x key ok ob K) :
    ∃ v, K v ∧ ∀ ob', Agree x.refs ob ob' → ∀ K' : AV → Prop, K' v → lookK T t x key ok ob' K' := by
  unfold lookK at h ⊢
  split at h
  · rename_i k e r kv hk
    rw [onlyIf_iff] at h
    obtain ⟨h0, h⟩ := h
    obtain ⟨o, h, ho⟩ := findO_x h
    cases o with
    | box => exact h.elim
    | row => exact h.elim
    | map k' e' es =>
      simp only at h
      obtain ⟨q, hq, v, hv, b, hb, h⟩ := h
      exact ⟨_, h, fun ob' ha K' hK => (onlyIf_iff _ _).2 ⟨h0, ho ob' (ha r (by simp [AV.refs])) _ ⟨q, hq, v, hv, b, hb, hK⟩⟩⟩
  · exact h.elim

theorem mapSetK_x {T : TT} {t : Nat} {x key v : AV} {ob : List (Option OB)} {K : AV → W → Prop} (h : mapSetK T t x key v ob K) :
    ∃ u w, K u w ∧ (∀ q ∈ w, q.1 ∈ x.refs ++ v.refs) ∧ ∀ ob', Agree (x.refs ++ v.refs) ob ob' → ∀ K' : AV → W → Prop, K' u w → mapSetK T t x key v ob' K' := by
  unfold mapSetK at h ⊢
  split at h
  · rename_i k e r kv hk
    rw [onlyIf_iff] at h
    obtain ⟨h0, h⟩ := h
    obtain ⟨d, w, h, hq, hd⟩ := toD_x h
    rw [onlyIf_iff] at h
    obtain ⟨h1, h⟩ := h
    obtain ⟨o, h, ho⟩ := findO_x h
    cases o with
    | box => exact h.elim
    | row => exact h.elim
    | map k' e' es =>
      simp only at h
      obtain ⟨zs, hz, h⟩ := h
      refine ⟨_, _, h, fun q hm => ?_, fun ob' ha K' hK => (onlyIf_iff _ _).2 ⟨h0, hd ob' (ha.mono fun r hr => by simp [hr]) _ ((onlyIf_iff _ _).2 ⟨h1, ho ob' (ha r (by simp [AV.refs])) _ ⟨zs, hz, hK⟩⟩)⟩⟩
      rcases List.mem_append.1 hm with hm | hm
      · exact List.mem_append_right _ (hq q hm)
      · simp only [List.mem_singleton] at hm
        rw [hm]
        simp [AV.refs]
  · exact h.elim

theorem boundK_x {o : Option AV} {dflt : Int} {K : Int → Prop} (h : boundK o dflt K) : ∃ i, K i ∧ ∀ K' : Int → Prop, K' i → boundK o dflt K' := by
  unfold boundK at h ⊢
  split at h
  · exact ⟨_, h, fun K' hK => hK⟩
  · exact ⟨_, h, fun K' hK => hK⟩
  · exact h.elim

theorem sliceD_x {sz : Nat} {d : D} {lo hi : Option AV} {K : AV → Prop} (h : sliceD sz d lo hi K) : ∃ v, K v ∧ ∀ K' : AV → Prop, K' v → sliceD sz d lo hi K' := by
  cases d with
  | lst sz' es =>
    simp only [sliceD, onlyIf_iff] at h ⊢
    obtain ⟨h0, h⟩ := h
    obtain ⟨l, h, hl⟩ := boundK_x h
    obtain ⟨u, ⟨hc, ys, hy, h⟩, hu⟩ := boundK_x h
    exact ⟨_, h, fun K' hK => ⟨h0, hl _ (hu _ ⟨hc, ys, hy, hK⟩)⟩⟩
  | _ => simp [sliceD] at h

theorem sliceK_x {T : TT} {t : Nat} {x : AV} {lo hi : Option AV} {ob : List (Option OB)} {K : AV → W → Prop} (h : sliceK T t x lo hi ob K) :
    ∃ v w, K v w ∧ (∀ q ∈ w, q.1 ∈ x.refs) ∧ ∀ ob', Agree x.refs ob ob' → ∀ K' : AV → W → Prop, K' v w → sliceK T t x lo hi ob' K' := by
  unfold sliceK at h ⊢
  split at h
  · rw [onlyIf_iff] at h
    obtain ⟨h0, h⟩ := h
    obtain ⟨d, w, h, hq, hd⟩ := toD_x h
    obtain ⟨v, h, hv⟩ := sliceD_x h
    exact ⟨v, w, h, hq, fun ob' ha K' hK => (onlyIf_iff _ _).2 ⟨h0, hd ob' ha _ (hv _ hK)⟩⟩
  · split at h
    · obtain ⟨l, h, hl⟩ := boundK_x h
      obtain ⟨u, ⟨hc, h⟩, hu⟩ := boundK_x h
      exact ⟨_, _, h, fun q hq => by simp at hq, fun ob' _ K' hK => hl _ (hu _ ⟨hc, hK⟩)⟩
    · exact h.elim
  · exact h.elim

theorem indexAddrK_x {T : TT} {t : Nat} {x y : AV} {ob : List (Option OB)} {K : AV → Prop} (h : indexAddrK T t x y ob K) :
    ∃ v, K v ∧ ∀ ob', Agree x.refs ob ob' → ∀ K' : AV → Prop, K' v → indexAddrK T t x y ob' K' := by
  unfold indexAddrK at h ⊢
  split at h
  · split at h
    · simp only [onlyIf_iff] at h ⊢
      obtain ⟨h0, h1, h2, v, h3, h4, h⟩ := h
      exact ⟨_, h, fun ob' _ K' hK => ⟨h0, h1, h2, v, h3, h4, hK⟩⟩
    · rename_i r n _
      obtain ⟨o, h, ho⟩ := findO_x h
      cases o with
      | box cs =>
        simp only [onlyIf_iff] at h
        obtain ⟨h0, h1, h2, h⟩ := h
        exact ⟨_, h, fun ob' ha K' hK => ho ob' (ha r (by simp [AV.refs])) _ (by simp only [onlyIf_iff]; exact ⟨h0, h1, h2, hK⟩)⟩
      | map => exact h.elim
      | row e' sz es f =>
        simp only [onlyIf_iff] at h
        obtain ⟨h0, h1, h2, h3, h⟩ := h
        exact ⟨_, h, fun ob' ha K' hK => ho ob' (ha r (by simp [AV.refs])) _ (by simp only [onlyIf_iff]; exact ⟨h0, h1, h2, h3, hK⟩)⟩
    · simp only [onlyIf_iff] at h ⊢
      obtain ⟨h0, h1, h2, h⟩ := h
      exact ⟨_, h, fun ob' _ K' hK => ⟨h0, h1, h2, hK⟩⟩
    · exact h.elim
  · exact h.elim

theorem aggCells_x {x : AV} {K : List AV → Prop} (h : aggCells x K) : ∃ l, K l ∧ ∀ K' : List AV → Prop, K' l → aggCells x K' := by
  unfold aggCells at h ⊢
  split at h
  · rename_i cs
    have hm : ∀ (cs : List D) (K : List AV → Prop), mapK (fun c K => K (AV.d c)) cs K ↔ K (cs.map .d) := by
      intro cs
      induction cs with
      | nil => intro K; simp [mapK]
      | cons c cs ih => intro K; simp [mapK, ih]
    rw [hm] at h
    exact ⟨_, h, fun K' hK => (hm _ _).2 hK⟩
  · exact ⟨_, h, fun K' hK => hK⟩
  · exact h.elim

theorem partK_x {T : TT} {t off : Nat} {cs : List AV} {K : AV → Prop} (h : partK T t cs off K) : ∃ v, K v ∧ ∀ K' : AV → Prop, K' v → partK T t cs off K' := by
  unfold partK at h ⊢
  split at h
  · simp only [dropK_iff, onlyIf_iff, takeK_iff, aggOf_iff] at h ⊢
    exact ⟨_, h.2, fun K' hK => ⟨h.1, hK⟩⟩
  · split at h
    · obtain ⟨v, h1, h2⟩ := force_x h
      exact ⟨v, h1, fun K' hK => h2 K' hK⟩
    · exact h.elim
  · exact h.elim

theorem indexK_x {T : TT} {t : Nat} {x y : AV} {K : AV → Prop} (h : indexK T t x y K) : ∃ v, K v ∧ ∀ K' : AV → Prop, K' v → indexK T t x y K' := by
  unfold indexK at h ⊢
  split at h
  · split at h
    · obtain ⟨h1, c, h2, h⟩ := h
      exact ⟨_, h, fun K' hK => ⟨h1, c, h2, hK⟩⟩
    · obtain ⟨cs, h, hx⟩ := aggCells_x h
      obtain ⟨h1, h⟩ := h
      split at h
      · rename_i hc
        obtain ⟨a, ha, h⟩ := h
        obtain ⟨v, g1, g2⟩ := force_x h
        exact ⟨v, g1, fun K' hK => hx _ ⟨h1, ⟨a, ha, g2 K' hK⟩⟩⟩
      · exact h.elim
    · exact h.elim
  · exact h.elim

theorem fieldK_x {T : TT} {t i : Nat} {x : AV} {K : AV → Prop} (h : fieldK T t i x K) : ∃ v, K v ∧ ∀ K' : AV → Prop, K' v → fieldK T t i x K' := by
  unfold fieldK at h ⊢
  split at h
  · split at h
    · obtain ⟨cs, h, hx⟩ := aggCells_x h
      obtain ⟨v, g1, g2⟩ := partK_x h
      exact ⟨v, g1, fun K' hK => hx _ (g2 K' hK)⟩
    · exact h.elim
  · exact h.elim

theorem fieldOff_x {T : TT} {t i : Nat} {K : Nat → Nat → Nat → Prop} (h : fieldOff T t i K) : ∃ a b c, K a b c ∧ ∀ K' : Nat → Nat → Nat → Prop, K' a b c → fieldOff T t i K' := by
  unfold fieldOff at h ⊢
  split at h
  · split at h
    · split at h
      · exact h.elim
      · exact ⟨_, _, _, h, fun K' hK => hK⟩
    · exact h.elim
  · exact h.elim

theorem convK_x {T : TT} {src dst : Nat} {x : AV} {ob : List (Option OB)} {K : AV → Prop} (h : convK T src dst x ob K) :
    ∃ v, K v ∧ ∀ ob', Agree x.refs ob ob' → ∀ K' : AV → Prop, K' v → convK T src dst x ob' K' := by
  unfold convK at h ⊢
  rw [onlyIf_iff] at h
  obtain ⟨h0, h⟩ := h
  split at h
  · obtain ⟨r, h1, h⟩ := h
    exact ⟨_, h, fun ob' _ K' hK => (onlyIf_iff _ _).2 ⟨h0, r, h1, hK⟩⟩
  · exact ⟨_, h, fun ob' _ K' hK => (onlyIf_iff _ _).2 ⟨h0, hK⟩⟩
  · split at h
    · split at h
      · rename_i hke
        rw [onlyIf_iff] at h
        obtain ⟨h1, h⟩ := h
        obtain ⟨sz, es, h, hx⟩ := srcK_x h
        rw [onlyIf_iff] at h
        obtain ⟨h2, l, h3, h⟩ := h
        exact ⟨_, h, fun ob' ha K' hK => (onlyIf_iff _ _).2 ⟨h0, (onlyIf_iff _ _).2 ⟨h1, hx ob' ha _ ((onlyIf_iff _ _).2 ⟨h2, l, h3, hK⟩)⟩⟩⟩
      · exact h.elim
    · exact h.elim
  · exact h.elim

theorem moveK_x {T : TT} {ty self : Nat} {x : AV} {ob : List (Option OB)} {K : AV → W → Prop} (h : moveK T ty self x ob K) :
    ∃ v w, K v w ∧ (∀ q ∈ w, q.1 = self) ∧ ∀ ob', ob'[self]? = ob[self]? → ∀ K' : AV → W → Prop, K' v w → moveK T ty self x ob' K' := by
  unfold moveK at h ⊢
  split at h
  · split at h
    · split at h
      · rename_i hs
        rw [onlyIf_iff] at h
        exact ⟨_, _, h.2, fun q hq => by simp only [List.mem_singleton] at hq; simp [hq], fun ob' ha K' hK => by rw [ha, hs]; exact (onlyIf_iff _ _).2 ⟨h.1, hK⟩⟩
      · rename_i hs
        refine ⟨_, _, h, fun q hq => by simp at hq, fun ob' ha K' hK => ?_⟩
        rw [ha]
        split
        · rename_i h2; exact absurd h2 hs
        · exact hK
    · exact h.elim
  · obtain ⟨v, h1, h2⟩ := force_x h
    exact ⟨v, [], h1, fun q hq => by simp at hq, fun ob' _ K' hK => h2 _ hK⟩

theorem go2_x (r : Nat) : ∀ (l : List Nat) (n : Nat) {F N : Nat → Prop}, argK.go r l n F N → (∃ k, F k ∧ ∀ F' N' : Nat → Prop, F' k → argK.go r l n F' N') ∨ (∃ k, N k ∧ ∀ F' N' : Nat → Prop, N' k → argK.go r l n F' N')
  | [], n, F, N, h => .inr ⟨n, h, fun F' N' h' => h'⟩
  | x :: l, n, F, N, h => by
    simp only [argK.go] at h ⊢
    cases hb : Nat.beq x r with
    | true => simp only [hb] at h ⊢; exact .inl ⟨n, h, fun F' N' h' => h'⟩
    | false =>
      simp only [hb] at h ⊢
      rcases go2_x r l (n + 1) h with ⟨k, h1, h2⟩ | ⟨k, h1, h2⟩
      · exact .inl ⟨k, h1, h2⟩
      · exact .inr ⟨k, h1, h2⟩

theorem refK_x {r : Nat} {ρ : List Nat} {K : Nat → List Nat → Prop} (h : argK.refK r ρ K) : ∃ i ρ', K i ρ' ∧ (∀ x ∈ ρ', x ∈ ρ ∨ x = r) ∧ ∀ K' : Nat → List Nat → Prop, K' i ρ' → argK.refK r ρ K' := by
  rcases go2_x r ρ 0 h with ⟨k, h1, h2⟩ | ⟨k, h1, h2⟩
  · exact ⟨k, ρ, h1, fun x hx => .inl hx, fun K' hK => h2 _ _ hK⟩
  · exact ⟨k, _, h1, fun x hx => by simpa using hx, fun K' hK => h2 _ _ hK⟩

theorem capsK_x : ∀ {caps : List AV} {ρ : List Nat} {K : List AV → List Nat → Prop}, argK.capsK caps ρ K → ∃ c' ρ', K c' ρ' ∧ (∀ x ∈ ρ', x ∈ ρ ∨ x ∈ AV.refs.refsL caps) ∧ ∀ K' : List AV → List Nat → Prop, K' c' ρ' → argK.capsK caps ρ K'
  | [], ρ, K, h => ⟨_, _, h, fun x hx => .inl hx, fun K' hK => hK⟩
  | c :: caps, ρ, K, h => by
    cases c <;> simp only [argK.capsK] at h ⊢
    case ref r off =>
      obtain ⟨i, ρ1, h, h1, h2⟩ := refK_x h
      obtain ⟨c', ρ2, h, h3, h4⟩ := capsK_x h
      refine ⟨_, ρ2, h, fun x hx => ?_, fun K' hK => h2 _ (h4 _ hK)⟩
      rcases h3 x hx with hx | hx
      · rcases h1 x hx with hx | hx
        · exact .inl hx
        · exact .inr (by simp [AV.refs.refsL, AV.refs, hx])
      · exact .inr (by simp [AV.refs.refsL, hx])

theorem argK_x {keep : Bool} {ob : List (Option OB)} {a : AV} {ρ : List Nat} {K : AV → List Nat → W → Prop} (h : argK keep ob a ρ K) :
    ∃ a' ρ' w, K a' ρ' w ∧ (∀ q ∈ w, q.1 ∈ a.refs) ∧ (∀ x ∈ ρ', x ∈ ρ ∨ x ∈ a.refs) ∧ ∀ ob', Agree a.refs ob ob' → ∀ K' : AV → List Nat → W → Prop, K' a' ρ' w → argK keep ob' a ρ K' := by
  cases a <;> simp only [argK] at h ⊢
  case d x => exact ⟨_, _, _, (normK_iff _ _).1 h, fun q hq => by simp at hq, fun x hx => .inl hx, fun ob' _ K' hK => (normK_iff _ _).2 hK⟩
  case own r n =>
    cases keep with
    | true =>
      obtain ⟨i, ρ1, h, h1, h2⟩ := refK_x h
      exact ⟨_, _, _, h, fun q hq => by simp at hq, fun x hx => (h1 x hx).imp id fun e => by simp [AV.refs, e], fun ob' _ K' hK => h2 _ hK⟩
    | false =>
      obtain ⟨x, w, h, hq, h2⟩ := toD_x h
      exact ⟨_, _, _, h, hq, fun x hx => .inl hx, fun ob' ha K' hK => h2 ob' ha _ hK⟩
  case agg cs =>
    obtain ⟨x, w, h, hq, h2⟩ := toD_x h
    exact ⟨_, _, _, h, hq, fun x hx => .inl hx, fun ob' ha K' hK => h2 ob' ha _ hK⟩
  case ref r off =>
    obtain ⟨i, ρ1, h, h1, h2⟩ := refK_x h
    exact ⟨_, _, _, h, fun q hq => by simp at hq, fun x hx => (h1 x hx).imp id fun e => by simp [AV.refs, e], fun ob' _ K' hK => h2 _ hK⟩
  case mp r =>
    obtain ⟨i, ρ1, h, h1, h2⟩ := refK_x h
    exact ⟨_, _, _, h, fun q hq => by simp at hq, fun x hx => (h1 x hx).imp id fun e => by simp [AV.refs, e], fun ob' _ K' hK => h2 _ hK⟩
  case eref cs => exact ⟨_, _, _, h, fun q hq => by simp at hq, fun x hx => .inl hx, fun ob' _ K' hK => hK⟩
  case fn f caps =>
    obtain ⟨c', ρ1, h, h1, h2⟩ := capsK_x h
    exact ⟨_, _, _, h, fun q hq => by simp at hq, fun x hx => (h1 x hx).imp id fun e => by simpa [AV.refs] using e, fun ob' _ K' hK => h2 _ hK⟩

theorem argsK_x {keep : List Bool} {ob : List (Option OB)} : ∀ {as : List AV} {ρ : List Nat} {K : List AV → List Nat → W → Prop}, argsK keep ob as ρ K →
    ∃ as' ρ' w, K as' ρ' w ∧ (∀ q ∈ w, q.1 ∈ AV.refs.refsL as) ∧ (∀ x ∈ ρ', x ∈ ρ ∨ x ∈ AV.refs.refsL as) ∧ ∀ ob', Agree (AV.refs.refsL as) ob ob' → ∀ K' : List AV → List Nat → W → Prop, K' as' ρ' w → argsK keep ob' as ρ K'
  | [], ρ, K, h => ⟨_, _, _, h, fun q hq => by simp at hq, fun x hx => .inl hx, fun ob' _ K' hK => hK⟩
  | a :: as, ρ, K, h => by
    simp only [argsK] at h ⊢
    obtain ⟨a', ρ1, w1, h, h1, h2, h3⟩ := argK_x h
    obtain ⟨as', ρ2, w2, h, g1, g2, g3⟩ := argsK_x h
    refine ⟨_, _, _, h, fun q hq => ?_, fun x hx => ?_, fun ob' ha K' hK => h3 ob' (ha.mono fun r hr => by simp [AV.refs.refsL, hr]) _ (g3 ob' (ha.mono fun r hr => by simp [AV.refs.refsL, hr]) _ hK)⟩
    · simp only [AV.refs.refsL, List.mem_append]
      rcases List.mem_append.1 hq with hq | hq
      · exact .inl (h1 q hq)
      · exact .inr (g1 q hq)
    · simp only [AV.refs.refsL, List.mem_append]
      rcases g2 x hx with hx | hx
      · exact (h2 x hx).imp id .inl
      · exact .inr (.inr hx)

theorem objsK_x {ob : List (Option OB)} : ∀ {ρ : List Nat} {K : List OB → Prop}, objsK ob ρ K → ∃ l, K l ∧ ∀ ob', Agree ρ ob ob' → ∀ K' : List OB → Prop, K' l → objsK ob' ρ K'
  | [], K, h => ⟨_, h, fun ob' _ K' hK => hK⟩
  | r :: ρ, K, h => by
    simp only [objsK] at h ⊢
    obtain ⟨o, h, ho⟩ := findO_x h
    cases o with
    | box cs =>
      simp only [cellsD_iff] at h
      obtain ⟨l, h1, h2⟩ := objsK_x h.2
      exact ⟨_, h1, fun ob' ha K' hK => ho ob' (ha r (by simp)) _ (by simp only [cellsD_iff]; exact ⟨h.1, h2 ob' (ha.mono fun r hr => by simp [hr]) _ hK⟩)⟩
    | row e sz es f =>
      simp only at h
      obtain ⟨l, h1, h2⟩ := objsK_x h
      exact ⟨_, h1, fun ob' ha K' hK => ho ob' (ha r (by simp)) _ (h2 ob' (ha.mono fun r hr => by simp [hr]) _ hK)⟩
    | map k e es =>
      simp only at h
      obtain ⟨l, h1, h2⟩ := objsK_x h
      exact ⟨_, h1, fun ob' ha K' hK => ho ob' (ha r (by simp)) _ (h2 ob' (ha.mono fun r hr => by simp [hr]) _ hK)⟩

theorem backK_x {self : Nat} : ∀ {ρ : List Nat} {objs : List OB} {K : W → Prop}, backK ρ self objs K → ∃ w, K w ∧ (∀ q ∈ w, q.1 = self ∨ q.1 ∈ ρ) ∧ ∀ K' : W → Prop, K' w → backK ρ self objs K'
  | [], [], K, h => ⟨_, h, fun q hq => by simp at hq, fun K' hK => hK⟩
  | [], [o], K, h => by
    simp only [backK] at h ⊢
    split at h
    · rename_i hc; exact ⟨_, h, fun q hq => by simp only [List.mem_singleton] at hq; simp [hq], fun K' hK => hK⟩
    · exact h.elim
  | r :: ρ, o :: os, K, h => by
    simp only [backK] at h ⊢
    split at h
    · obtain ⟨w, h1, h3, h2⟩ := backK_x h
      refine ⟨_, h1, fun q hq => ?_, fun K' hK => h2 _ hK⟩
      simp only [List.mem_cons] at hq
      rcases hq with hq | hq
      · simp [hq]
      · exact (h3 q hq).imp id fun e => by simp [e]
    · exact h.elim
  | [], _ :: _ :: _, K, h => by simp [backK] at h
  | _ :: _, [], K, h => by simp [backK] at h

theorem callK_x {cx : Cx} {f : FuncId} {self : Nat} {args : List AV} {ob : List (Option OB)} {K : AV → W → Prop} (h : callK cx f self args ob K) :
    ∃ v w, K v w ∧ (∀ q ∈ w, q.1 ∈ self :: AV.refs.refsL args) ∧ ∀ ob', Agree (self :: AV.refs.refsL args) ob ob' → ∀ K' : AV → W → Prop, K' v w → callK cx f self args ob' K' := by
  simp only [callK_eq] at h ⊢
  unfold callK0 at h ⊢
  obtain ⟨as', ρ, w, h, h1, h2, h3⟩ := argsK_x h
  rw [onlyIf_iff] at h
  obtain ⟨hap, h⟩ := h
  obtain ⟨objs, h, h4⟩ := objsK_x h
  obtain ⟨res, objs', hC, hs, h⟩ := h
  rw [renK_iff] at h
  obtain ⟨a', hr, h⟩ := h
  obtain ⟨w', h, h5, h6⟩ := backK_x h
  have hρ : ∀ x ∈ ρ, x ∈ AV.refs.refsL args := fun x hx => (h2 x hx).resolve_left (by simp)
  refine ⟨_, _, h, fun q hq => ?_, fun ob' ha K' hK => h3 ob' (ha.mono fun r hr => by simp [hr]) _ ((onlyIf_iff _ _).2 ⟨hap, h4 ob' (ha.mono fun r hr => by simp [hρ r hr]) _ ⟨res, objs', hC, ?_, (renK_iff _ _ _ _).2 ⟨a', hr, h6 _ hK⟩⟩⟩)⟩
  · rcases List.mem_append.1 hq with hq | hq
    · exact List.mem_cons_of_mem _ (h1 q hq)
    · rcases h5 q hq with e | e
      · simp [e]
      · exact List.mem_cons_of_mem _ (hρ _ e)
  · rcases hs with hs | hs
    · exact .inl hs
    · exact .inr ((ha self (by simp)).trans hs)

theorem maxK_x {l : List AV} {K : AV → Prop} (h : maxK l K) : ∃ v, K v ∧ ∀ K' : AV → Prop, K' v → maxK l K' := by
  unfold maxK at h ⊢
  split at h
  · obtain ⟨r, h1, h⟩ := h; exact ⟨_, h, fun K' hK => ⟨r, h1, hK⟩⟩
  · exact h.elim
theorem minK_x {l : List AV} {K : AV → Prop} (h : minK l K) : ∃ v, K v ∧ ∀ K' : AV → Prop, K' v → minK l K' := by
  unfold minK at h ⊢
  split at h
  · obtain ⟨r, h1, h⟩ := h; exact ⟨_, h, fun K' hK => ⟨r, h1, hK⟩⟩
  · exact h.elim
end Go.AX
