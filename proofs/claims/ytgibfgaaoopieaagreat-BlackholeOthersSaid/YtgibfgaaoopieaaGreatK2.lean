/-
  Texts of one proof, packed: Ax11 Ax12 Ax13 Ax14 Ax15 Ax16 Ax17 Ax18 Ax19 Ax21 Ax20 AxT.
-/
import Derived.Test.YtgibfgaaoopieaaGreatK1
import Derived.Below
import Derived.Carry
import Derived.ChangeOld
import Derived.Deep.Slices
import Derived.IntWalk
import Derived.OpenShut
import Derived.ProofKit
import Derived.SizedLaws
import Derived.WalkKit
set_option linter.all false
section
namespace Go.AX
def Agree (rs : List Nat) (ob ob' : List (Option OB)) : Prop := ∀ r ∈ rs, ob'[r]? = ob[r]?
theorem Agree.mono {rs rs' : List Nat} {ob ob' : List (Option OB)} (h : Agree rs ob ob') (hs : ∀ r ∈ rs', r ∈ rs) : Agree rs' ob ob' := fun r hr => h r (hs r hr)
theorem findO_x {ob : List (Option OB)} {r : Nat} {K : OB → Prop} (h : findO ob r K) : ∃ o, K o ∧ ∀ ob' : List (Option OB), ob'[r]? = ob[r]? → ∀ K' : OB → Prop, K' o → findO ob' r K' := by
  rw [findO_iff] at h
  obtain ⟨o, ho, h⟩ := h
  refine ⟨o, h, fun ob' ha K' hK => (findO_iff _ _ _).2 ⟨o, ?_, hK⟩⟩
  rw [List.getD_eq_getElem?_getD] at ho ⊢
  rw [ha]; exact ho
theorem noO_x {ob ob' : List (Option OB)} {r : Nat} {P Q : Prop} (h : noO ob r P) (ha : ob'[r]? = ob[r]?) (hq : Q) : noO ob' r Q := by
  rw [noO_iff] at h ⊢
  exact ⟨ha.trans h.1, hq⟩
theorem force_x {a : AV} {K : AV → Prop} (h : a.force K) : ∃ v, K v ∧ ∀ K' : AV → Prop, K' v → a.force K' := ⟨a, (force_iff _ _).1 h, fun K' hK => (force_iff _ _).2 hK⟩
theorem binK_x {T : TT} {op : BinOp} {t : Nat} {x y : AV} {K : AV → Prop} (h : binK T op t x y K) : ∃ v, K v ∧ ∀ K' : AV → Prop, K' v → binK T op t x y K' := by
  simp only [binK_eq] at h ⊢
  unfold binK0 at h ⊢
  split at h
  · obtain ⟨h1, r, h2, h3⟩ := h; exact ⟨_, h3, fun K' hK => ⟨h1, r, h2, hK⟩⟩
  · obtain ⟨h1, r, h2, h3⟩ := h; exact ⟨_, h3, fun K' hK => ⟨h1, r, h2, hK⟩⟩
  · exact ⟨_, h, fun K' hK => hK⟩
  · exact ⟨_, h, fun K' hK => hK⟩
  · exact ⟨_, h.2, fun K' hK => ⟨h.1, hK⟩⟩
  · exact ⟨_, h, fun K' hK => hK⟩
  · exact ⟨_, h, fun K' hK => hK⟩
  · rw [onlyIf_iff] at h
    obtain ⟨h0, h⟩ := h
    cases op <;> simp only at h
    case add => obtain ⟨r, h2, h3⟩ := h; exact ⟨_, h3, fun K' hK => (onlyIf_iff _ _).2 ⟨h0, r, h2, hK⟩⟩
    case sub => obtain ⟨r, h2, h3⟩ := h; exact ⟨_, h3, fun K' hK => (onlyIf_iff _ _).2 ⟨h0, r, h2, hK⟩⟩
    case mul => obtain ⟨r, h2, h3⟩ := h; exact ⟨_, h3, fun K' hK => (onlyIf_iff _ _).2 ⟨h0, r, h2, hK⟩⟩
    case quo => obtain ⟨h1, r, h2, h3⟩ := h; exact ⟨_, h3, fun K' hK => (onlyIf_iff _ _).2 ⟨h0, h1, r, h2, hK⟩⟩
    case rem => obtain ⟨h1, r, h2, h3⟩ := h; exact ⟨_, h3, fun K' hK => (onlyIf_iff _ _).2 ⟨h0, h1, r, h2, hK⟩⟩
    case and => obtain ⟨r, h2, h3⟩ := h; exact ⟨_, h3, fun K' hK => (onlyIf_iff _ _).2 ⟨h0, r, h2, hK⟩⟩
    case or => obtain ⟨r, h2, h3⟩ := h; exact ⟨_, h3, fun K' hK => (onlyIf_iff _ _).2 ⟨h0, r, h2, hK⟩⟩
    case xor => obtain ⟨r, h2, h3⟩ := h; exact ⟨_, h3, fun K' hK => (onlyIf_iff _ _).2 ⟨h0, r, h2, hK⟩⟩
    case andNot => obtain ⟨r, h2, h3⟩ := h; exact ⟨_, h3, fun K' hK => (onlyIf_iff _ _).2 ⟨h0, r, h2, hK⟩⟩
    case eql => exact ⟨_, h, fun K' hK => (onlyIf_iff _ _).2 ⟨h0, hK⟩⟩
    case neq => exact ⟨_, h, fun K' hK => (onlyIf_iff _ _).2 ⟨h0, hK⟩⟩
    case lss => exact ⟨_, h, fun K' hK => (onlyIf_iff _ _).2 ⟨h0, hK⟩⟩
    case leq => exact ⟨_, h, fun K' hK => (onlyIf_iff _ _).2 ⟨h0, hK⟩⟩
    case gtr => exact ⟨_, h, fun K' hK => (onlyIf_iff _ _).2 ⟨h0, hK⟩⟩
    case geq => exact ⟨_, h, fun K' hK => (onlyIf_iff _ _).2 ⟨h0, hK⟩⟩
    all_goals exact h.elim
  · split at h
    · exact ⟨_, h, fun K' hK => hK⟩
    · exact h.elim
  · split at h
    · exact ⟨_, h, fun K' hK => hK⟩
    · exact h.elim
  · exact h.elim
theorem unK_x {op : UnOp} {x : AV} {K : AV → Prop} (h : unK op x K) : ∃ v, K v ∧ ∀ K' : AV → Prop, K' v → unK op x K' := by
  unfold unK at h ⊢
  split at h
  · exact ⟨_, h, fun K' hK => hK⟩
  · obtain ⟨r, h2, h3⟩ := h; exact ⟨_, h3, fun K' hK => ⟨r, h2, hK⟩⟩
  · exact h.elim
theorem pickK_x {c a b : AV} {K : AV → Prop} (h : pickK c a b K) : ∃ v, K v ∧ ∀ K' : AV → Prop, K' v → pickK c a b K' := by
  unfold pickK at h ⊢
  split at h
  · split at h
    · exact ⟨_, h, fun K' hK => hK⟩
    · rename_i t _ _ hne
      cases t with
      | true => obtain ⟨v, h1, h2⟩ := force_x h; exact ⟨v, h1, fun K' hK => h2 K' hK⟩
      | false => obtain ⟨v, h1, h2⟩ := force_x h; exact ⟨v, h1, fun K' hK => h2 K' hK⟩
  · exact h.elim
theorem loadK_x {T : TT} {t : Nat} {a : AV} {ob : List (Option OB)} {K : AV → Prop} (h : loadK T t a ob K) :
    ∃ v, K v ∧ ∀ ob', Agree a.refs ob ob' → ∀ K' : AV → Prop, K' v → loadK T t a ob' K' := by
  cases a <;> simp only [loadK] at h ⊢
  case ref r off =>
    obtain ⟨o, h, ho⟩ := findO_x h
    cases o with
    | row => exact h.elim
    | map => exact h.elim
    | amap => exact h.elim
    | gone => exact h.elim
    | box cs =>
      simp only at h
      cases hcl : (T.get t).kind.cls with
      | none => simp [hcl] at h
      | some q =>
        cases q with
        | true =>
          simp only [hcl, dropK_iff, onlyIf_iff, takeK_iff, aggOf_iff] at h
          exact ⟨_, h.2, fun ob' ha K' hK => ho ob' (ha r (by simp [AV.refs])) _ (by simp only [dropK_iff, onlyIf_iff, takeK_iff, aggOf_iff]; exact ⟨h.1, hK⟩)⟩
        | false =>
          simp only [hcl] at h
          cases hg : cs[off]? with
          | none => simp [hg] at h
          | some x =>
            simp only [hg] at h
            obtain ⟨v, h1, h2⟩ := force_x h
            exact ⟨v, h1, fun ob' ha K' hK => ho ob' (ha r (by simp [AV.refs])) _ (by simp only [hg]; exact h2 K' hK)⟩
  case eref cs =>
    cases hcl : (T.get t).kind.cls with
    | none => simp [hcl] at h
    | some q =>
      cases q with
      | true =>
        simp only [hcl, onlyIf_iff, takeK_iff] at h
        exact ⟨_, h.2, fun ob' _ K' hK => by simp only [onlyIf_iff, takeK_iff]; exact ⟨h.1, hK⟩⟩
      | false =>
        simp only [hcl] at h
        cases hg : cs[0]? with
        | none => simp [hg] at h
        | some x =>
          simp only [hg] at h
          exact ⟨_, h, fun ob' _ K' hK => hK⟩
  case rref r n i k =>
    obtain ⟨o, h, ho⟩ := findO_x h
    cases o with
    | box cs =>
      simp only at h
      cases hcl : (T.get t).kind.cls with
      | none => simp [hcl] at h
      | some q =>
        cases q with
        | true => simp [hcl] at h
        | false =>
          simp only [hcl, force_iff] at h
          obtain ⟨x, hg, h⟩ := h
          exact ⟨_, h, fun ob' ha K' hK => ho ob' (ha r (by simp [AV.refs])) _ ⟨x, hg, (force_iff _ _).2 hK⟩⟩
    | map => exact h.elim
    | amap => exact h.elim
    | gone => exact h.elim
    | row e sz es frz =>
      simp only [dropK_iff] at h
      obtain ⟨hn, x, hx, h⟩ := h
      cases hcl : (T.get t).kind.cls with
      | none => simp [hcl] at h
      | some q =>
        cases q with
        | true =>
          simp only [hcl, onlyIf_iff, takeK_iff] at h
          exact ⟨_, h.2, fun ob' ha K' hK => ho ob' (ha r (by simp [AV.refs])) _ ⟨hn, x, hx, by simp only [dropK_iff, onlyIf_iff, takeK_iff]; exact ⟨h.1, hK⟩⟩⟩
        | false =>
          simp only [hcl] at h
          cases hg : (x.cells.drop k)[0]? with
          | none => simp [hg] at h
          | some y =>
            simp only [hg] at h
            exact ⟨_, h, fun ob' ha K' hK => ho ob' (ha r (by simp [AV.refs])) _ ⟨hn, x, hx, by simp only [dropK_iff, hg]; exact hK⟩⟩
theorem toD_x {ob : List (Option OB)} {a : AV} {K : D → W → Prop} (h : toD ob a K) :
    ∃ x w, K x w ∧ (∀ q ∈ w, q.1 ∈ a.refs) ∧ ∀ ob', Agree a.refs ob ob' → ∀ K' : D → W → Prop, K' x w → toD ob' a K' := by
  cases a <;> simp only [toD] at h ⊢
  case d x => exact ⟨_, _, (normK_iff _ _).1 h, fun q hq => by simp at hq, fun ob' _ K' hK => (normK_iff _ _).2 hK⟩
  case own r n =>
    obtain ⟨o, h, ho⟩ := findO_x h
    cases o with
    | box => exact h.elim
    | map => exact h.elim
    | amap => exact h.elim
    | gone => exact h.elim
    | row e sz es f => exact ⟨_, _, h.2, fun q hq => by simp only [List.mem_singleton] at hq; simp [hq, AV.refs], fun ob' ha K' hK => ho ob' (ha r (by simp [AV.refs])) _ ⟨h.1, hK⟩⟩
  case agg cs =>
    have key : ∀ (cs : List AV) (K : List D → W → Prop), toD.toDs ob cs K → ∃ l w, K l w ∧ (∀ q ∈ w, q.1 ∈ AV.refs.refsL cs) ∧ ∀ ob', Agree (AV.refs.refsL cs) ob ob' → ∀ K' : List D → W → Prop, K' l w → toD.toDs ob' cs K' := by
      intro cs
      induction cs with
      | nil => intro K h; exact ⟨_, _, h, fun q hq => by simp at hq, fun ob' _ K' hK => hK⟩
      | cons c cs ih =>
        intro K h
        cases c <;> simp only [toD.toDs] at h ⊢
        case d x =>
          cases x with
          | agg => exact h.elim
          | val u => obtain ⟨l, w, h1, hq, h2⟩ := ih _ h; exact ⟨_, w, h1, fun q hm => by simp [AV.refs.refsL, hq q hm], fun ob' ha K' hK => h2 ob' (ha.mono fun r hr => by simp [AV.refs.refsL, hr]) _ hK⟩
          | nil sz => obtain ⟨l, w, h1, hq, h2⟩ := ih _ h; exact ⟨_, w, h1, fun q hm => by simp [AV.refs.refsL, hq q hm], fun ob' ha K' hK => h2 ob' (ha.mono fun r hr => by simp [AV.refs.refsL, hr]) _ hK⟩
          | lst sz es => obtain ⟨l, w, h1, hq, h2⟩ := ih _ h; exact ⟨_, w, h1, fun q hm => by simp [AV.refs.refsL, hq q hm], fun ob' ha K' hK => h2 ob' (ha.mono fun r hr => by simp [AV.refs.refsL, hr]) _ hK⟩
        case own r n =>
          obtain ⟨o, h, ho⟩ := findO_x h
          cases o with
          | box => exact h.elim
          | map => exact h.elim
          | amap => exact h.elim
          | gone => exact h.elim
          | row e sz es f =>
            obtain ⟨hn, h⟩ := h
            obtain ⟨l, w, h1, hq, h2⟩ := ih _ h
            refine ⟨_, _, h1, fun q hm => ?_, fun ob' ha K' hK => ho ob' (ha r (by simp [AV.refs.refsL, AV.refs])) _ ⟨hn, h2 ob' (ha.mono fun r hr => by simp [AV.refs.refsL, hr]) _ hK⟩⟩
            simp only [List.mem_cons] at hm
            rcases hm with hm | hm
            · simp [hm, AV.refs.refsL, AV.refs]
            · simp [AV.refs.refsL, hq q hm]
    obtain ⟨l, w, h1, hq, h2⟩ := key cs _ h
    exact ⟨_, w, h1, hq, fun ob' ha K' hK => h2 ob' ha _ hK⟩
theorem rowStoreK_x {y x : D} {k : Nat} {K : D → Prop} (h : rowStoreK y k x K) : ∃ z, K z ∧ ∀ K' : D → Prop, K' z → rowStoreK y k x K' := by
  unfold rowStoreK at h ⊢
  simp only [normK_iff, overK_iff] at h ⊢
  obtain ⟨h0, h⟩ := h
  split at h
  · exact ⟨_, h, fun K' hK => ⟨h0, hK⟩⟩
  · split at h
    · rw [onlyIf_iff] at h
      exact ⟨_, h.2, fun K' hK => ⟨h0, (onlyIf_iff _ _).2 ⟨h.1, hK⟩⟩⟩
    · exact h.elim
theorem storeK_x {T : TT} {t : Nat} {a x : AV} {ob : List (Option OB)} {K : AV → W → Prop} (h : storeK T t a x ob K) :
    ∃ v w, K v w ∧ (∀ q ∈ w, q.1 ∈ a.refs) ∧ ∀ ob', Agree a.refs ob ob' → ∀ K' : AV → W → Prop, K' v w → storeK T t a x ob' K' := by
  unfold storeK at h ⊢
  rw [onlyIf_iff] at h
  obtain ⟨h0, h⟩ := h
  split at h
  · rename_i r off
    obtain ⟨o, h, ho⟩ := findO_x h
    cases o with
    | row => exact h.elim
    | map => exact h.elim
    | amap => exact h.elim
    | gone => exact h.elim
    | box cs =>
      simp only [cellsK_iff, onlyIf_iff, overK_iff] at h
      obtain ⟨l, hl, hsz, hle, h⟩ := h
      exact ⟨_, _, h, fun q hq => by simp only [List.mem_singleton] at hq; simp [hq, AV.refs], fun ob' ha K' hK => (onlyIf_iff _ _).2 ⟨h0, ho ob' (ha r (by simp [AV.refs])) _ (by simp only [cellsK_iff, onlyIf_iff, overK_iff]; exact ⟨l, hl, hsz, hle, hK⟩)⟩⟩
  · rename_i r n i k
    obtain ⟨o, h, ho⟩ := findO_x h
    cases o with
    | box => exact h.elim
    | map => exact h.elim
    | amap => exact h.elim
    | gone => exact h.elim
    | row e sz es f =>
      simp only at h
      obtain ⟨hn, hf, h⟩ := h
      cases x <;> simp only at h
      case d x =>
        rw [onlyIf_iff] at h
        obtain ⟨hsz, y, hy, h⟩ := h
        obtain ⟨z, ⟨zs, hzs, h⟩, hz⟩ := rowStoreK_x h
        exact ⟨_, _, h, fun q hq => by simp only [List.mem_singleton] at hq; simp [hq, AV.refs], fun ob' ha K' hK => (onlyIf_iff _ _).2 ⟨h0, ho ob' (ha r (by simp [AV.refs])) _ ⟨hn, hf, (onlyIf_iff _ _).2 ⟨hsz, y, hy, hz _ ⟨zs, hzs, hK⟩⟩⟩⟩⟩
  · exact h.elim
theorem go_x (place : Nat → Option (Nat × Nat)) : ∀ (ps : List (Nat × AV)) (cs : List AV) {K : List AV → Prop}, buildK.go place ps cs K → ∃ l, K l ∧ ∀ K' : List AV → Prop, K' l → buildK.go place ps cs K'
  | [], cs, K, h => ⟨_, h, fun K' hK => hK⟩
  | (i, v) :: ps, cs, K, h => by
    simp only [buildK.go] at h ⊢
    cases hp : place i with
    | none => simp [hp] at h
    | some q =>
      obtain ⟨off, size⟩ := q
      simp only [hp, cellsK_iff, onlyIf_iff, overK_iff] at h ⊢
      obtain ⟨l, hl, hsz, hle, h⟩ := h
      obtain ⟨l', h1, h2⟩ := go_x place ps _ h
      exact ⟨l', h1, fun K' hK => ⟨l, hl, hsz, hle, h2 K' hK⟩⟩
theorem buildK_x {T : TT} {t : Nat} {ps : List (Nat × AV)} {K : AV → Prop} (h : buildK T t ps K) : ∃ v, K v ∧ ∀ K' : AV → Prop, K' v → buildK T t ps K' := by
  unfold buildK at h ⊢
  split at h
  · obtain ⟨l, h1, h2⟩ := go_x _ _ _ h
    rw [aggOf_iff] at h1
    exact ⟨_, h1, fun K' hK => h2 _ ((aggOf_iff _ _).2 hK)⟩
  · rw [onlyIf_iff] at h
    obtain ⟨h0, h⟩ := h
    obtain ⟨l, h1, h2⟩ := go_x _ _ _ h
    rw [aggOf_iff] at h1
    exact ⟨_, h1, fun K' hK => (onlyIf_iff _ _).2 ⟨h0, h2 _ ((aggOf_iff _ _).2 hK)⟩⟩
  · exact h.elim
theorem elems_x {ob : List (Option OB)} {sz : Nat} : ∀ {ps : List (Nat × AV)} {i : Nat} {K : List D → W → Prop}, buildRowK.elems ob sz i ps K →
    ∃ l w, K l w ∧ (∀ q ∈ w, q.1 ∈ AV.refs.refsL (ps.map (·.2))) ∧ ∀ ob', Agree (AV.refs.refsL (ps.map (·.2))) ob ob' → ∀ K' : List D → W → Prop, K' l w → buildRowK.elems ob' sz i ps K'
  | [], i, K, h => ⟨_, _, h, fun q hq => by simp at hq, fun ob' _ K' hK => hK⟩
  | (j, v) :: ps, i, K, h => by
    simp only [buildRowK.elems] at h ⊢
    cases hb : Nat.beq i j with
    | false => simp [hb] at h
    | true =>
      simp only [hb] at h ⊢
      obtain ⟨x, w, h, hq1, hx⟩ := toD_x h
      rw [onlyIf_iff] at h
      obtain ⟨hsz, h⟩ := h
      obtain ⟨l, w', h1, hq2, h2⟩ := elems_x h
      exact ⟨_, _, h1, fun q hm => by
        simp only [List.map_cons, AV.refs.refsL, List.mem_append]
        rcases List.mem_append.1 hm with hm | hm
        · exact .inl (hq1 q hm)
        · exact .inr (hq2 q hm), fun ob' ha K' hK => hx ob' (ha.mono fun r hr => by simp [AV.refs.refsL, hr]) _ ((onlyIf_iff _ _).2 ⟨hsz, h2 ob' (ha.mono fun r hr => by simp only [List.map_cons, AV.refs.refsL, List.mem_append]; exact .inr hr) _ hK⟩)⟩
theorem buildRowK_x {T : TT} {t len self : Nat} {ps : List (Nat × AV)} {ob : List (Option OB)} {K : AV → W → Prop} (h : buildRowK T t len self ps ob K) :
    ∃ v w, K v w ∧ (∀ q ∈ w, q.1 ∈ self :: AV.refs.refsL (ps.map (·.2))) ∧ ∀ ob', Agree (self :: AV.refs.refsL (ps.map (·.2))) ob ob' → ∀ K' : AV → W → Prop, K' v w → buildRowK T t len self ps ob' K' := by
  unfold buildRowK at h ⊢
  split at h
  · have h0 := h
    rw [noO_iff, onlyIf_iff, onlyIf_iff] at h
    obtain ⟨hs, hc, hk, h⟩ := h
    obtain ⟨l, w, h1, hq, h2⟩ := elems_x h
    rw [onlyIf_iff] at h1
    exact ⟨_, _, h1.2, fun q hm => by
      rcases List.mem_append.1 hm with hm | hm
      · exact List.mem_cons_of_mem _ (hq q hm)
      · simp only [List.mem_singleton] at hm; simp [hm], fun ob' ha K' hK => noO_x h0 (ha self (by simp)) ((onlyIf_iff _ _).2 ⟨hc, (onlyIf_iff _ _).2 ⟨hk, h2 ob' (ha.mono fun r hr => by simp [hr]) _ ((onlyIf_iff _ _).2 ⟨h1.1, hK⟩)⟩⟩)⟩
  · exact h.elim
theorem buildBoxK_x {T : TT} {t len self : Nat} {cs : List AV} {ob : List (Option OB)} {K : AV → W → Prop} (h : buildBoxK T t len self cs ob K) :
    ∃ v w, K v w ∧ (∀ q ∈ w, q.1 ∈ [self]) ∧ ∀ ob', Agree [self] ob ob' → ∀ K' : AV → W → Prop, K' v w → buildBoxK T t len self cs ob' K' := by
  unfold buildBoxK at h ⊢
  split at h
  · have h0 := h
    rw [noO_iff, onlyIf_iff] at h
    obtain ⟨hs, hc, hK⟩ := h
    exact ⟨_, _, hK, fun q hm => by simp only [List.mem_singleton] at hm; simp [hm], fun ob' ha K' hK' => noO_x h0 (ha self (by simp)) ((onlyIf_iff _ _).2 ⟨hc, hK'⟩)⟩
  · exact h.elim
theorem buildSliceK_x {T : TT} {t len self : Nat} {ps : List (Nat × AV)} {ob : List (Option OB)} {K : AV → W → Prop} (h : buildSliceK T t len self ps ob K) :
    ∃ v w, K v w ∧ (∀ q ∈ w, q.1 ∈ self :: AV.refs.refsL (ps.map (·.2))) ∧ ∀ ob', Agree (self :: AV.refs.refsL (ps.map (·.2))) ob ob' → ∀ K' : AV → W → Prop, K' v w → buildSliceK T t len self ps ob' K' := by
  unfold buildSliceK at h ⊢
  split at h
  · rcases h with h | h
    · obtain ⟨v, w, h1, h2, h3⟩ := buildRowK_x h
      exact ⟨v, w, h1, h2, fun ob' ha K' hK => .inl (h3 ob' ha K' hK)⟩
    · obtain ⟨v, w, h1, h2, h3⟩ := buildBoxK_x h
      exact ⟨v, w, h1, fun q hq => by have := h2 q hq; simp only [List.mem_singleton] at this; simp [this], fun ob' ha K' hK => .inr (h3 ob' (ha.mono fun r hr => by simp only [List.mem_singleton] at hr; simp [hr]) K' hK)⟩
  · exact buildRowK_x h
theorem srcK0_x {ob : List (Option OB)} {y : AV} {K : Nat → List D → Prop} (h : srcK0 ob y K) : ∃ sz es, K sz es ∧ ∀ ob', Agree y.refs ob ob' → ∀ K' : Nat → List D → Prop, K' sz es → srcK0 ob' y K' := by
  unfold srcK0 at h ⊢
  split at h
  · exact ⟨_, _, h, fun ob' _ K' hK => hK⟩
  · exact ⟨_, _, h, fun ob' _ K' hK => hK⟩
  · rename_i r n
    obtain ⟨o, h, ho⟩ := findO_x h
    cases o with
    | box => exact h.elim
    | map => exact h.elim
    | amap => exact h.elim
    | gone => exact h.elim
    | row e sz es f => exact ⟨_, _, h.2, fun ob' ha K' hK => ho ob' (ha r (by simp [AV.refs])) _ ⟨h.1, hK⟩⟩
  · exact h.elim
theorem srcK_x {ob : List (Option OB)} {y : AV} {K : Nat → List D → Prop} (h : srcK ob y K) : ∃ sz es, K sz es ∧ ∀ ob', Agree y.refs ob ob' → ∀ K' : Nat → List D → Prop, K' sz es → srcK ob' y K' := by
  unfold srcK at h ⊢
  split at h
  · rename_i r a n m
    obtain ⟨o, h, ho⟩ := findO_x h
    cases o with
    | box => exact h.elim
    | map => exact h.elim
    | amap => exact h.elim
    | gone => exact h.elim
    | row e sz es f =>
      obtain ⟨h1, zs, h2, h⟩ := h
      exact ⟨_, _, h, fun ob' ha K' hK => ho ob' (ha r (by simp [AV.refs])) _ ⟨h1, zs, h2, hK⟩⟩
  · exact srcK0_x h
theorem appendK_x {T : TT} {st self : Nat} {x y : AV} {ob : List (Option OB)} {K : AV → W → Prop} (h : appendK T st self x y ob K) :
    ∃ v w, K v w ∧ (∀ q ∈ w, q.1 ∈ self :: x.refs) ∧ ∀ ob', Agree (self :: (x.refs ++ y.refs)) ob ob' → ∀ K' : AV → W → Prop, K' v w → appendK T st self x y ob' K' := by
  unfold appendK at h ⊢
  split at h
  · obtain ⟨sz', ys, h, hy⟩ := srcK_x h
    split at h
    · have h0 := h
      rw [noO_iff, onlyIf_iff, onlyIf_iff] at h
      obtain ⟨hs, hc, hk, hb, h⟩ := h
      exact ⟨_, _, h, fun q hq => by simp only [List.mem_singleton] at hq; simp [hq], fun ob' ha K' hK => hy ob' (ha.mono fun r hr => by simp [hr]) _ (noO_x h0 (ha self (by simp)) ((onlyIf_iff _ _).2 ⟨hc, (onlyIf_iff _ _).2 ⟨hk, hb, hK⟩⟩))⟩
    · rename_i r n _
      obtain ⟨o, h, ho⟩ := findO_x h
      cases o with
      | box => exact h.elim
      | map => exact h.elim
      | amap => exact h.elim
      | gone => exact h.elim
      | row e' sz es f =>
        simp only [onlyIf_iff] at h
        obtain ⟨hc, hk, hn, hb, zs, hz, h⟩ := h
        exact ⟨_, _, h, fun q hq => by simp only [List.mem_singleton] at hq; simp [hq, AV.refs], fun ob' ha K' hK => hy ob' (ha.mono fun r hr => by simp [hr]) _ (ho ob' (ha r (by simp [AV.refs])) _ ((onlyIf_iff _ _).2 ⟨hc, (onlyIf_iff _ _).2 ⟨hk, hn, hb, zs, hz, hK⟩⟩))⟩
    · exact h.elim
  · exact h.elim
theorem lenK_x {T : TT} {t : Nat} {x : AV} {K : AV → Prop} (h : lenK T t x K) : ∃ v, K v ∧ ∀ K' : AV → Prop, K' v → lenK T t x K' := by
  unfold lenK at h ⊢
  split at h <;> first | exact ⟨_, h, fun K' hK => hK⟩ | exact h.elim | (obtain ⟨n, hn, h⟩ := h; exact ⟨_, h, fun K' hK => ⟨n, hn, hK⟩⟩)
theorem lookK_x {T : TT} {t : Nat} {x key : AV} {ok : Bool} {ob : List (Option OB)} {K : AV → Prop} (h : lookK T t x key ok ob K) :
    ∃ v, K v ∧ ∀ ob', Agree x.refs ob ob' → ∀ K' : AV → Prop, K' v → lookK T t x key ok ob' K' := by
  unfold lookK at h ⊢
  split at h
  · rename_i k e r kv hk
    rw [onlyIf_iff] at h
    obtain ⟨h0, h⟩ := h
    obtain ⟨o, h, ho⟩ := findO_x h
    cases o with
    | box => exact h.elim
    | row => exact h.elim
    | gone => exact h.elim
    | amap k' e' es kv' r' n' =>
      rcases h with ⟨q, hq, v, hv, b, hb, h⟩ | ⟨h1, h2, h3, h4, h⟩
      · exact ⟨_, h, fun ob' ha K' hK => (onlyIf_iff _ _).2 ⟨h0, ho ob' (ha r (by simp [AV.refs])) _ (.inl ⟨q, hq, v, hv, b, hb, hK⟩)⟩⟩
      · exact ⟨_, h, fun ob' ha K' hK => (onlyIf_iff _ _).2 ⟨h0, ho ob' (ha r (by simp [AV.refs])) _ (.inr ⟨h1, h2, h3, h4, hK⟩)⟩⟩
    | map k' e' es =>
      simp only at h
      obtain ⟨q, hq, v, hv, b, hb, h⟩ := h
      exact ⟨_, h, fun ob' ha K' hK => (onlyIf_iff _ _).2 ⟨h0, ho ob' (ha r (by simp [AV.refs])) _ ⟨q, hq, v, hv, b, hb, hK⟩⟩⟩
  · exact h.elim
theorem mapSetK_x {T : TT} {t : Nat} {x key v : AV} {ob : List (Option OB)} {K : AV → W → Prop} (h : mapSetK T t x key v ob K) :
    ∃ u w, K u w ∧ (∀ q ∈ w, q.1 ∈ x.refs ++ v.refs) ∧ ∀ ob', Agree (x.refs ++ v.refs) ob ob' → ∀ K' : AV → W → Prop, K' u w → mapSetK T t x key v ob' K' := by
  unfold mapSetK at h ⊢
  split at h
  · rename_i k e r kv hk
    rw [onlyIf_iff] at h
    obtain ⟨h0, h⟩ := h
    obtain ⟨d, w, h, hq, hd⟩ := toD_x h
    rw [onlyIf_iff] at h
    obtain ⟨h1, h⟩ := h
    obtain ⟨o, h, ho⟩ := findO_x h
    cases o with
    | box => exact h.elim
    | row => exact h.elim
    | gone => exact h.elim
    | map k' e' es =>
      simp only at h
      obtain ⟨zs, hz, h⟩ := h
      refine ⟨_, _, h, fun q hm => ?_, fun ob' ha K' hK => (onlyIf_iff _ _).2 ⟨h0, hd ob' (ha.mono fun r hr => by simp [hr]) _ ((onlyIf_iff _ _).2 ⟨h1, ho ob' (ha r (by simp [AV.refs])) _ ⟨zs, hz, hK⟩⟩)⟩⟩
      rcases List.mem_append.1 hm with hm | hm
      · exact List.mem_append_right _ (hq q hm)
      · simp only [List.mem_singleton] at hm
        rw [hm]
        simp [AV.refs]
    | amap k' e' es _ _ _ =>
      simp only at h
      obtain ⟨zs, hz, h⟩ := h
      refine ⟨_, _, h, fun q hm => ?_, fun ob' ha K' hK => (onlyIf_iff _ _).2 ⟨h0, hd ob' (ha.mono fun r hr => by simp [hr]) _ ((onlyIf_iff _ _).2 ⟨h1, ho ob' (ha r (by simp [AV.refs])) _ ⟨zs, hz, hK⟩⟩)⟩⟩
      rcases List.mem_append.1 hm with hm | hm
      · exact List.mem_append_right _ (hq q hm)
      · simp only [List.mem_singleton] at hm
        rw [hm]
        simp [AV.refs]
  · exact h.elim
theorem mapSetA_x {T : TT} {t r0 n0 : Nat} {x key : AV} {ob : List (Option OB)} {K : AV → W → Prop} (h : mapSetA T t x key r0 n0 ob K) :
    ∃ u w, K u w ∧ (∀ q ∈ w, q.1 ∈ x.refs ++ (AV.own r0 n0).refs) ∧ ∀ ob', Agree (x.refs ++ (AV.own r0 n0).refs) ob ob' → ∀ K' : AV → W → Prop, K' u w → mapSetA T t x key r0 n0 ob' K' := by
  unfold mapSetA at h ⊢
  split at h
  · rename_i k e r kv hk
    rw [onlyIf_iff] at h
    obtain ⟨h0, h⟩ := h
    obtain ⟨d, w, h, hq, hd⟩ := toD_x h
    rw [onlyIf_iff] at h
    obtain ⟨h1, h⟩ := h
    obtain ⟨o, h, ho⟩ := findO_x h
    cases o with
    | box => exact h.elim
    | row => exact h.elim
    | gone => exact h.elim
    | map k' e' es =>
      simp only at h
      obtain ⟨zs, hz, h⟩ := h
      refine ⟨_, _, h, fun q hm => ?_, fun ob' ha K' hK => (onlyIf_iff _ _).2 ⟨h0, hd ob' (ha.mono fun r hr => by simp [hr]) _ ((onlyIf_iff _ _).2 ⟨h1, ho ob' (ha r (by simp [AV.refs])) _ ⟨zs, hz, hK⟩⟩)⟩⟩
      rcases List.mem_append.1 hm with hm | hm
      · exact List.mem_append_right _ (hq q hm)
      · simp only [List.mem_singleton] at hm
        rw [hm]
        simp [AV.refs]
    | amap k' e' es _ _ _ =>
      simp only at h
      obtain ⟨zs, hz, h⟩ := h
      refine ⟨_, _, h, fun q hm => ?_, fun ob' ha K' hK => (onlyIf_iff _ _).2 ⟨h0, hd ob' (ha.mono fun r hr => by simp [hr]) _ ((onlyIf_iff _ _).2 ⟨h1, ho ob' (ha r (by simp [AV.refs])) _ ⟨zs, hz, hK⟩⟩)⟩⟩
      rcases List.mem_append.1 hm with hm | hm
      · exact List.mem_append_right _ (hq q hm)
      · simp only [List.mem_singleton] at hm
        rw [hm]
        simp [AV.refs]
  · exact h.elim
theorem mapPutK_x {T : TT} {t : Nat} {x key v : AV} {ob : List (Option OB)} {K : AV → W → Prop} (h : mapPutK T t x key v ob K) :
    ∃ u w, K u w ∧ (∀ q ∈ w, q.1 ∈ x.refs ++ v.refs) ∧ ∀ ob', Agree (x.refs ++ v.refs) ob ob' → ∀ K' : AV → W → Prop, K' u w → mapPutK T t x key v ob' K' := by
  unfold mapPutK at h ⊢
  split at h
  · rcases h with h | h
    · obtain ⟨u, w, h1, h2, h3⟩ := mapSetK_x h
      exact ⟨u, w, h1, h2, fun ob' ha K' hK => .inl (h3 ob' ha K' hK)⟩
    · obtain ⟨u, w, h1, h2, h3⟩ := mapSetA_x h
      exact ⟨u, w, h1, h2, fun ob' ha K' hK => .inr (h3 ob' ha K' hK)⟩
  · exact mapSetK_x h
theorem boundK_x {o : Option AV} {dflt : Int} {K : Int → Prop} (h : boundK o dflt K) : ∃ i, K i ∧ ∀ K' : Int → Prop, K' i → boundK o dflt K' := by
  unfold boundK at h ⊢
  split at h
  · exact ⟨_, h, fun K' hK => hK⟩
  · exact ⟨_, h, fun K' hK => hK⟩
  · exact h.elim
theorem sliceD_x {sz : Nat} {d : D} {lo hi : Option AV} {K : AV → Prop} (h : sliceD sz d lo hi K) : ∃ v, K v ∧ v.isOsl = false ∧ ∀ K' : AV → Prop, K' v → sliceD sz d lo hi K' := by
  cases d with
  | lst sz' es =>
    simp only [sliceD, onlyIf_iff] at h ⊢
    obtain ⟨h0, h⟩ := h
    obtain ⟨l, h, hl⟩ := boundK_x h
    obtain ⟨u, ⟨hc, ys, hy, h⟩, hu⟩ := boundK_x h
    exact ⟨_, h, rfl, fun K' hK => ⟨h0, hl _ (hu _ ⟨hc, ys, hy, hK⟩)⟩⟩
  | _ => simp [sliceD] at h
theorem sliceF_x {T : TT} {e : Nat} {x : AV} {lo hi : Option AV} {ob : List (Option OB)} {K : AV → W → Prop} (h : sliceF T e x lo hi ob K) :
    ∃ v w, K v w ∧ (v.isOsl = true → w = []) ∧ (∀ q ∈ w, q.1 ∈ x.refs) ∧ ∀ ob', Agree x.refs ob ob' → ∀ K' : AV → W → Prop, K' v w → sliceF T e x lo hi ob' K' := by
  unfold sliceF at h ⊢
  rw [onlyIf_iff] at h
  obtain ⟨h0, h⟩ := h
  obtain ⟨d, w, h, hq, hd⟩ := toD_x h
  obtain ⟨v, h, hno, hv⟩ := sliceD_x h
  exact ⟨v, w, h, fun e => by rw [hno] at e; simp at e, hq, fun ob' ha K' hK => (onlyIf_iff _ _).2 ⟨h0, hd ob' ha _ (hv _ hK)⟩⟩
theorem sliceV_x {T : TT} {e r n : Nat} {lo hi : Option AV} {ob : List (Option OB)} {K : AV → W → Prop} (h : sliceV T e r n lo hi ob K) :
    ∃ v w, K v w ∧ (v.isOsl = true → w = []) ∧ (∀ q ∈ w, q.1 ∈ [r]) ∧ ∀ ob', Agree [r] ob ob' → ∀ K' : AV → W → Prop, K' v w → sliceV T e r n lo hi ob' K' := by
  unfold sliceV at h ⊢
  rw [onlyIf_iff] at h
  obtain ⟨h0, h⟩ := h
  obtain ⟨o, h, ho⟩ := findO_x h
  cases o with
  | box => exact h.elim
  | map => exact h.elim
  | amap => exact h.elim
  | gone => exact h.elim
  | row e' sz es f =>
    simp only [onlyIf_iff] at h
    obtain ⟨h1, h⟩ := h
    obtain ⟨l, h, hl⟩ := boundK_x h
    obtain ⟨u, ⟨hc, hn, a, k, ha, hk, h⟩, hu⟩ := boundK_x h
    exact ⟨_, _, h, fun _ => rfl, fun q hq => by simp at hq, fun ob' hag K' hK => (onlyIf_iff _ _).2 ⟨h0, ho ob' (hag r (by simp)) _ (by simp only [onlyIf_iff]; exact ⟨h1, hl _ (hu _ ⟨hc, hn, a, k, ha, hk, hK⟩)⟩)⟩⟩
theorem sliceM_x {T : TT} {e self r n : Nat} {lo hi mx : Option AV} {ob : List (Option OB)} {K : AV → W → Prop} (h : sliceM T e self r n lo hi mx ob K) :
    ∃ v w, K v w ∧ (v.isOsl = true → w = []) ∧ (∀ q ∈ w, q.1 ∈ [self, r]) ∧ ∀ ob', Agree [self, r] ob ob' → ∀ K' : AV → W → Prop, K' v w → sliceM T e self r n lo hi mx ob' K' := by
  unfold sliceM at h ⊢
  have hq := h
  rw [noO_iff, onlyIf_iff] at h
  obtain ⟨hs, h0, h⟩ := h
  obtain ⟨o, h, ho⟩ := findO_x h
  cases o with
  | box => exact h.elim
  | map => exact h.elim
  | amap => exact h.elim
  | gone => exact h.elim
  | row e' sz es f =>
    simp only [onlyIf_iff] at h
    obtain ⟨h1, h⟩ := h
    obtain ⟨l, h, hl⟩ := boundK_x h
    obtain ⟨u, h, hu⟩ := boundK_x h
    obtain ⟨q, ⟨hc, hn, zs, hz, h⟩, hm⟩ := boundK_x h
    refine ⟨_, _, h, fun e => by simp [AV.isOsl] at e, fun q hq => ?_, fun ob' hag K' hK => noO_x hq (hag self (by simp)) ((onlyIf_iff _ _).2 ⟨h0, ho ob' (hag r (by simp)) _ (by simp only [onlyIf_iff]; exact ⟨h1, hl _ (hu _ (hm _ ⟨hc, hn, zs, hz, hK⟩))⟩)⟩)⟩
    simp only [List.mem_cons, List.not_mem_nil, or_false] at hq
    rcases hq with rfl | rfl <;> simp
theorem slice3K_x {T : TT} {t self : Nat} {x : AV} {lo hi mx : Option AV} {ob : List (Option OB)} {K : AV → W → Prop} (h : slice3K T t self x lo hi mx ob K) :
    ∃ v w, K v w ∧ (v.isOsl = true → w = []) ∧ (∀ q ∈ w, q.1 ∈ self :: x.refs) ∧ ∀ ob', Agree (self :: x.refs) ob ob' → ∀ K' : AV → W → Prop, K' v w → slice3K T t self x lo hi mx ob' K' := by
  unfold slice3K at h ⊢
  split at h
  · split at h
    · split at h
      · obtain ⟨v, w, h1, hos, h2, h3⟩ := sliceM_x h
        exact ⟨v, w, h1, hos, fun q hq => by simpa [AV.refs] using h2 q hq, fun ob' ha K' hK => h3 ob' (ha.mono fun r hr => by simpa [AV.refs] using hr) K' hK⟩
      · exact h.elim
    · exact h.elim
  · exact h.elim
theorem sliceK_x {T : TT} {t self : Nat} {x : AV} {lo hi : Option AV} {ob : List (Option OB)} {K : AV → W → Prop} (h : sliceK T t self x lo hi ob K) :
    ∃ v w, K v w ∧ (v.isOsl = true → w = []) ∧ (∀ q ∈ w, q.1 ∈ self :: x.refs) ∧ ∀ ob', Agree (self :: x.refs) ob ob' → ∀ K' : AV → W → Prop, K' v w → sliceK T t self x lo hi ob' K' := by
  unfold sliceK at h ⊢
  split at h
  · split at h
    · rename_i r n
      rcases h with h | h | h
      · obtain ⟨v, w, h1, hos, h2, h3⟩ := sliceF_x h
        exact ⟨v, w, h1, hos, fun q hq => List.mem_cons_of_mem _ (h2 q hq), fun ob' ha K' hK => .inl (h3 ob' (ha.mono fun r hr => List.mem_cons_of_mem _ hr) K' hK)⟩
      · obtain ⟨v, w, h1, hos, h2, h3⟩ := sliceV_x h
        exact ⟨v, w, h1, hos, fun q hq => List.mem_cons_of_mem _ (by simpa [AV.refs] using h2 q hq), fun ob' ha K' hK => .inr (.inl (h3 ob' (ha.mono fun r hr => List.mem_cons_of_mem _ (by simpa [AV.refs] using hr)) K' hK))⟩
      · obtain ⟨v, w, h1, hos, h2, h3⟩ := sliceM_x h
        exact ⟨v, w, h1, hos, fun q hq => by simpa [AV.refs] using h2 q hq, fun ob' ha K' hK => .inr (.inr (h3 ob' (ha.mono fun r hr => by simpa [AV.refs] using hr) K' hK))⟩
    · obtain ⟨v, w, h1, hos, h2, h3⟩ := sliceF_x h
      exact ⟨v, w, h1, hos, fun q hq => List.mem_cons_of_mem _ (h2 q hq), fun ob' ha K' hK => h3 ob' (ha.mono fun r hr => List.mem_cons_of_mem _ hr) K' hK⟩
  · split at h
    · obtain ⟨l, h, hl⟩ := boundK_x h
      obtain ⟨u, ⟨hc, h⟩, hu⟩ := boundK_x h
      exact ⟨_, _, h, fun _ => rfl, fun q hq => by simp at hq, fun ob' _ K' hK => hl _ (hu _ ⟨hc, hK⟩)⟩
    · exact h.elim
  · exact h.elim
theorem clearK_x {T : TT} {t r a n m : Nat} {ob : List (Option OB)} {K : AV → W → Prop} (h : clearK T t r a n m ob K) :
    ∃ v w, K v w ∧ (∀ q ∈ w, q.1 ∈ [r]) ∧ ∀ ob', Agree [r] ob ob' → ∀ K' : AV → W → Prop, K' v w → clearK T t r a n m ob' K' := by
  unfold clearK at h ⊢
  split at h
  · obtain ⟨o, h, ho⟩ := findO_x h
    cases o with
    | box => exact h.elim
    | map => exact h.elim
    | amap => exact h.elim
    | gone => exact h.elim
    | row e' sz es f =>
      simp only [onlyIf_iff] at h
      obtain ⟨h0, h1, z, hz, zs, hzs, h⟩ := h
      exact ⟨_, _, h, fun q hq => by simp only [List.mem_singleton] at hq; simp [hq], fun ob' ha K' hK => ho ob' (ha r (by simp)) _ (by simp only [onlyIf_iff]; exact ⟨h0, h1, z, hz, zs, hzs, hK⟩)⟩
  · exact h.elim
theorem indexAddrK0_x {T : TT} {t : Nat} {x y : AV} {ob : List (Option OB)} {K : AV → Prop} (h : indexAddrK0 T t x y ob K) :
    ∃ v, K v ∧ ∀ ob', Agree x.refs ob ob' → ∀ K' : AV → Prop, K' v → indexAddrK0 T t x y ob' K' := by
  unfold indexAddrK0 at h ⊢
  split at h
  · split at h
    · simp only [onlyIf_iff] at h ⊢
      obtain ⟨h0, h1, h2, v, h3, h4, h⟩ := h
      exact ⟨_, h, fun ob' _ K' hK => ⟨h0, h1, h2, v, h3, h4, hK⟩⟩
    · rename_i r n _
      obtain ⟨o, h, ho⟩ := findO_x h
      cases o with
      | box cs =>
        simp only [onlyIf_iff] at h
        obtain ⟨h0, h1, h2, h⟩ := h
        exact ⟨_, h, fun ob' ha K' hK => ho ob' (ha r (by simp [AV.refs])) _ (by simp only [onlyIf_iff]; exact ⟨h0, h1, h2, hK⟩)⟩
      | map => exact h.elim
      | amap => exact h.elim
      | gone => exact h.elim
      | row e' sz es f =>
        simp only [onlyIf_iff] at h
        obtain ⟨h0, h1, h2, h3, h⟩ := h
        exact ⟨_, h, fun ob' ha K' hK => ho ob' (ha r (by simp [AV.refs])) _ (by simp only [onlyIf_iff]; exact ⟨h0, h1, h2, h3, hK⟩)⟩
    · simp only [onlyIf_iff] at h ⊢
      obtain ⟨h0, h1, ⟨h2, h⟩ | ⟨h3, h2, j, hj, h⟩⟩ := h
      · exact ⟨_, h, fun ob' _ K' hK => ⟨h0, h1, .inl ⟨h2, hK⟩⟩⟩
      · exact ⟨_, h, fun ob' _ K' hK => ⟨h0, h1, .inr ⟨h3, h2, j, hj, hK⟩⟩⟩
    · exact h.elim
  · exact h.elim
theorem indexAddrK_x {T : TT} {t : Nat} {x y : AV} {ob : List (Option OB)} {K : AV → Prop} (h : indexAddrK T t x y ob K) :
    ∃ v, K v ∧ ∀ ob', Agree x.refs ob ob' → ∀ K' : AV → Prop, K' v → indexAddrK T t x y ob' K' := by
  unfold indexAddrK at h ⊢
  split at h
  · rename_i r a n m
    unfold indexAddrV at h ⊢
    split at h
    · split at h
      · obtain ⟨o, h, ho⟩ := findO_x h
        cases o with
        | box => exact h.elim
        | map => exact h.elim
        | amap => exact h.elim
        | gone => exact h.elim
        | row e' sz es f =>
          simp only [onlyIf_iff] at h
          obtain ⟨h0, h1, h2, h3, j, hj, h⟩ := h
          exact ⟨_, h, fun ob' ha K' hK => ho ob' (ha r (by simp [AV.refs])) _ (by simp only [onlyIf_iff]; exact ⟨h0, h1, h2, h3, j, hj, hK⟩)⟩
      · exact h.elim
    · exact h.elim
  · exact indexAddrK0_x h
theorem aggCells_x {x : AV} {K : List AV → Prop} (h : aggCells x K) : ∃ l, K l ∧ ∀ K' : List AV → Prop, K' l → aggCells x K' := by
  unfold aggCells at h ⊢
  split at h
  · rename_i cs
    have hm : ∀ (cs : List D) (K : List AV → Prop), mapK (fun c K => K (AV.d c)) cs K ↔ K (cs.map .d) := by
      intro cs
      induction cs with
      | nil => intro K; simp [mapK]
      | cons c cs ih => intro K; simp [mapK, ih]
    rw [hm] at h
    exact ⟨_, h, fun K' hK => (hm _ _).2 hK⟩
  · exact ⟨_, h, fun K' hK => hK⟩
  · exact h.elim
theorem partK_x {T : TT} {t off : Nat} {cs : List AV} {K : AV → Prop} (h : partK T t cs off K) : ∃ v, K v ∧ ∀ K' : AV → Prop, K' v → partK T t cs off K' := by
  unfold partK at h ⊢
  split at h
  · simp only [dropK_iff, onlyIf_iff, takeK_iff, aggOf_iff] at h ⊢
    exact ⟨_, h.2, fun K' hK => ⟨h.1, hK⟩⟩
  · split at h
    · obtain ⟨v, h1, h2⟩ := force_x h
      exact ⟨v, h1, fun K' hK => h2 K' hK⟩
    · exact h.elim
  · exact h.elim
theorem indexK_x {T : TT} {t : Nat} {x y : AV} {K : AV → Prop} (h : indexK T t x y K) : ∃ v, K v ∧ ∀ K' : AV → Prop, K' v → indexK T t x y K' := by
  unfold indexK at h ⊢
  split at h
  · split at h
    · obtain ⟨h1, c, h2, h⟩ := h
      exact ⟨_, h, fun K' hK => ⟨h1, c, h2, hK⟩⟩
    · obtain ⟨cs, h, hx⟩ := aggCells_x h
      obtain ⟨h1, h⟩ := h
      split at h
      · rename_i hc
        obtain ⟨a, ha, h⟩ := h
        obtain ⟨v, g1, g2⟩ := force_x h
        exact ⟨v, g1, fun K' hK => hx _ ⟨h1, ⟨a, ha, g2 K' hK⟩⟩⟩
      · exact h.elim
    · exact h.elim
  · exact h.elim
theorem fieldK_x {T : TT} {t i : Nat} {x : AV} {K : AV → Prop} (h : fieldK T t i x K) : ∃ v, K v ∧ ∀ K' : AV → Prop, K' v → fieldK T t i x K' := by
  unfold fieldK at h ⊢
  split at h
  · split at h
    · obtain ⟨cs, h, hx⟩ := aggCells_x h
      obtain ⟨v, g1, g2⟩ := partK_x h
      exact ⟨v, g1, fun K' hK => hx _ (g2 K' hK)⟩
    · exact h.elim
  · exact h.elim
theorem fieldOff_x {T : TT} {t i : Nat} {K : Nat → Nat → Nat → Prop} (h : fieldOff T t i K) : ∃ a b c, K a b c ∧ ∀ K' : Nat → Nat → Nat → Prop, K' a b c → fieldOff T t i K' := by
  unfold fieldOff at h ⊢
  split at h
  · split at h
    · split at h
      · exact h.elim
      · exact ⟨_, _, _, h, fun K' hK => hK⟩
    · exact h.elim
  · exact h.elim
theorem convK_x {T : TT} {src dst : Nat} {x : AV} {ob : List (Option OB)} {K : AV → Prop} (h : convK T src dst x ob K) :
    ∃ v, K v ∧ ∀ ob', Agree x.refs ob ob' → ∀ K' : AV → Prop, K' v → convK T src dst x ob' K' := by
  unfold convK at h ⊢
  rw [onlyIf_iff] at h
  obtain ⟨h0, h⟩ := h
  split at h
  · obtain ⟨r, h1, h⟩ := h
    exact ⟨_, h, fun ob' _ K' hK => (onlyIf_iff _ _).2 ⟨h0, r, h1, hK⟩⟩
  · exact ⟨_, h, fun ob' _ K' hK => (onlyIf_iff _ _).2 ⟨h0, hK⟩⟩
  · split at h
    · split at h
      · rename_i hke
        rw [onlyIf_iff] at h
        obtain ⟨h1, h⟩ := h
        obtain ⟨sz, es, h, hx⟩ := srcK_x h
        rw [onlyIf_iff] at h
        obtain ⟨h2, l, h3, h⟩ := h
        exact ⟨_, h, fun ob' ha K' hK => (onlyIf_iff _ _).2 ⟨h0, (onlyIf_iff _ _).2 ⟨h1, hx ob' ha _ ((onlyIf_iff _ _).2 ⟨h2, l, h3, hK⟩)⟩⟩⟩
      · exact h.elim
    · exact h.elim
  · exact h.elim
theorem moveK_x {T : TT} {ty self : Nat} {x : AV} {ob : List (Option OB)} {K : AV → W → Prop} (h : moveK T ty self x ob K) :
    ∃ v w, K v w ∧ (∀ q ∈ w, q.1 = self) ∧ ∀ ob', ob'[self]? = ob[self]? → ∀ K' : AV → W → Prop, K' v w → moveK T ty self x ob' K' := by
  unfold moveK at h ⊢
  split at h
  · split at h
    · split at h
      · rename_i hs
        rw [onlyIf_iff] at h
        exact ⟨_, _, h.2, fun q hq => by simp only [List.mem_singleton] at hq; simp [hq], fun ob' ha K' hK => by rw [ha, hs]; exact (onlyIf_iff _ _).2 ⟨h.1, hK⟩⟩
      · rename_i hs
        refine ⟨_, _, h, fun q hq => by simp at hq, fun ob' ha K' hK => ?_⟩
        rw [ha]
        split
        · rename_i h2; exact absurd h2 hs
        · exact hK
    · exact h.elim
  · obtain ⟨v, h1, h2⟩ := force_x h
    exact ⟨v, [], h1, fun q hq => by simp at hq, fun ob' _ K' hK => h2 _ hK⟩
theorem go2_x (r : Nat) : ∀ (l : List Nat) (n : Nat) {F N : Nat → Prop}, argK.go r l n F N → (∃ k, F k ∧ ∀ F' N' : Nat → Prop, F' k → argK.go r l n F' N') ∨ (∃ k, N k ∧ ∀ F' N' : Nat → Prop, N' k → argK.go r l n F' N')
  | [], n, F, N, h => .inr ⟨n, h, fun F' N' h' => h'⟩
  | x :: l, n, F, N, h => by
    simp only [argK.go] at h ⊢
    cases hb : Nat.beq x r with
    | true => simp only [hb] at h ⊢; exact .inl ⟨n, h, fun F' N' h' => h'⟩
    | false =>
      simp only [hb] at h ⊢
      rcases go2_x r l (n + 1) h with ⟨k, h1, h2⟩ | ⟨k, h1, h2⟩
      · exact .inl ⟨k, h1, h2⟩
      · exact .inr ⟨k, h1, h2⟩
theorem refK_x {r : Nat} {ρ : List Nat} {K : Nat → List Nat → Prop} (h : argK.refK r ρ K) : ∃ i ρ', K i ρ' ∧ (∀ x ∈ ρ', x ∈ ρ ∨ x = r) ∧ ∀ K' : Nat → List Nat → Prop, K' i ρ' → argK.refK r ρ K' := by
  rcases go2_x r ρ 0 h with ⟨k, h1, h2⟩ | ⟨k, h1, h2⟩
  · exact ⟨k, ρ, h1, fun x hx => .inl hx, fun K' hK => h2 _ _ hK⟩
  · exact ⟨k, _, h1, fun x hx => by simpa using hx, fun K' hK => h2 _ _ hK⟩
theorem capsK_x : ∀ {caps : List AV} {ρ : List Nat} {K : List AV → List Nat → Prop}, argK.capsK caps ρ K → ∃ c' ρ', K c' ρ' ∧ (∀ x ∈ ρ', x ∈ ρ ∨ x ∈ AV.refs.refsL caps) ∧ ∀ K' : List AV → List Nat → Prop, K' c' ρ' → argK.capsK caps ρ K'
  | [], ρ, K, h => ⟨_, _, h, fun x hx => .inl hx, fun K' hK => hK⟩
  | c :: caps, ρ, K, h => by
    cases c <;> simp only [argK.capsK] at h ⊢
    case ref r off =>
      obtain ⟨i, ρ1, h, h1, h2⟩ := refK_x h
      obtain ⟨c', ρ2, h, h3, h4⟩ := capsK_x h
      refine ⟨_, ρ2, h, fun x hx => ?_, fun K' hK => h2 _ (h4 _ hK)⟩
      rcases h3 x hx with hx | hx
      · rcases h1 x hx with hx | hx
        · exact .inl hx
        · exact .inr (by simp [AV.refs.refsL, AV.refs, hx])
      · exact .inr (by simp [AV.refs.refsL, hx])
theorem argK_x {keep : Bool} {ob : List (Option OB)} {a : AV} {ρ : List Nat} {K : AV → List Nat → W → Prop} (h : argK keep ob a ρ K) :
    ∃ a' ρ' w, K a' ρ' w ∧ (∀ q ∈ w, q.1 ∈ a.refs) ∧ (∀ x ∈ ρ', x ∈ ρ ∨ x ∈ a.refs) ∧ ∀ ob', Agree a.refs ob ob' → ∀ K' : AV → List Nat → W → Prop, K' a' ρ' w → argK keep ob' a ρ K' := by
  cases a <;> simp only [argK] at h ⊢
  case d x => exact ⟨_, _, _, (normK_iff _ _).1 h, fun q hq => by simp at hq, fun x hx => .inl hx, fun ob' _ K' hK => (normK_iff _ _).2 hK⟩
  case own r n =>
    cases keep with
    | true =>
      obtain ⟨i, ρ1, h, h1, h2⟩ := refK_x h
      exact ⟨_, _, _, h, fun q hq => by simp at hq, fun x hx => (h1 x hx).imp id fun e => by simp [AV.refs, e], fun ob' _ K' hK => h2 _ hK⟩
    | false =>
      obtain ⟨x, w, h, hq, h2⟩ := toD_x h
      exact ⟨_, _, _, h, hq, fun x hx => .inl hx, fun ob' ha K' hK => h2 ob' ha _ hK⟩
  case agg cs =>
    obtain ⟨x, w, h, hq, h2⟩ := toD_x h
    exact ⟨_, _, _, h, hq, fun x hx => .inl hx, fun ob' ha K' hK => h2 ob' ha _ hK⟩
  case ref r off =>
    obtain ⟨i, ρ1, h, h1, h2⟩ := refK_x h
    exact ⟨_, _, _, h, fun q hq => by simp at hq, fun x hx => (h1 x hx).imp id fun e => by simp [AV.refs, e], fun ob' _ K' hK => h2 _ hK⟩
  case mp r =>
    obtain ⟨i, ρ1, h, h1, h2⟩ := refK_x h
    exact ⟨_, _, _, h, fun q hq => by simp at hq, fun x hx => (h1 x hx).imp id fun e => by simp [AV.refs, e], fun ob' _ K' hK => h2 _ hK⟩
  case eref cs => exact ⟨_, _, _, h, fun q hq => by simp at hq, fun x hx => .inl hx, fun ob' _ K' hK => hK⟩
  case fn f caps =>
    obtain ⟨c', ρ1, h, h1, h2⟩ := capsK_x h
    exact ⟨_, _, _, h, fun q hq => by simp at hq, fun x hx => (h1 x hx).imp id fun e => by simpa [AV.refs] using e, fun ob' _ K' hK => h2 _ hK⟩
theorem argsK_x {keep : List Bool} {ob : List (Option OB)} : ∀ {as : List AV} {ρ : List Nat} {K : List AV → List Nat → W → Prop}, argsK keep ob as ρ K →
    ∃ as' ρ' w, K as' ρ' w ∧ (∀ q ∈ w, q.1 ∈ AV.refs.refsL as) ∧ (∀ x ∈ ρ', x ∈ ρ ∨ x ∈ AV.refs.refsL as) ∧ ∀ ob', Agree (AV.refs.refsL as) ob ob' → ∀ K' : List AV → List Nat → W → Prop, K' as' ρ' w → argsK keep ob' as ρ K'
  | [], ρ, K, h => ⟨_, _, _, h, fun q hq => by simp at hq, fun x hx => .inl hx, fun ob' _ K' hK => hK⟩
  | a :: as, ρ, K, h => by
    simp only [argsK] at h ⊢
    obtain ⟨a', ρ1, w1, h, h1, h2, h3⟩ := argK_x h
    obtain ⟨as', ρ2, w2, h, g1, g2, g3⟩ := argsK_x h
    refine ⟨_, _, _, h, fun q hq => ?_, fun x hx => ?_, fun ob' ha K' hK => h3 ob' (ha.mono fun r hr => by simp [AV.refs.refsL, hr]) _ (g3 ob' (ha.mono fun r hr => by simp [AV.refs.refsL, hr]) _ hK)⟩
    · simp only [AV.refs.refsL, List.mem_append]
      rcases List.mem_append.1 hq with hq | hq
      · exact .inl (h1 q hq)
      · exact .inr (g1 q hq)
    · simp only [AV.refs.refsL, List.mem_append]
      rcases g2 x hx with hx | hx
      · exact (h2 x hx).imp id .inl
      · exact .inr (.inr hx)
theorem objsK_x {ob : List (Option OB)} : ∀ {ρ : List Nat} {K : List OB → Prop}, objsK ob ρ K → ∃ l, K l ∧ ∀ ob', Agree ρ ob ob' → ∀ K' : List OB → Prop, K' l → objsK ob' ρ K'
  | [], K, h => ⟨_, h, fun ob' _ K' hK => hK⟩
  | r :: ρ, K, h => by
    simp only [objsK] at h ⊢
    obtain ⟨o, h, ho⟩ := findO_x h
    cases o with
    | box cs =>
      simp only [cellsD_iff] at h
      obtain ⟨l, h1, h2⟩ := objsK_x h.2
      exact ⟨_, h1, fun ob' ha K' hK => ho ob' (ha r (by simp)) _ (by simp only [cellsD_iff]; exact ⟨h.1, h2 ob' (ha.mono fun r hr => by simp [hr]) _ hK⟩)⟩
    | row e sz es f =>
      simp only at h
      obtain ⟨l, h1, h2⟩ := objsK_x h
      exact ⟨_, h1, fun ob' ha K' hK => ho ob' (ha r (by simp)) _ (h2 ob' (ha.mono fun r hr => by simp [hr]) _ hK)⟩
    | amap => exact h.elim
    | gone => exact h.elim
    | map k e es =>
      simp only at h
      obtain ⟨l, h1, h2⟩ := objsK_x h
      exact ⟨_, h1, fun ob' ha K' hK => ho ob' (ha r (by simp)) _ (h2 ob' (ha.mono fun r hr => by simp [hr]) _ hK)⟩
theorem backK_x {self : Nat} : ∀ {ρ : List Nat} {objs : List OB} {K : W → Prop}, backK ρ self objs K → ∃ w, K w ∧ (∀ q ∈ w, q.1 = self ∨ q.1 ∈ ρ) ∧ ∀ K' : W → Prop, K' w → backK ρ self objs K'
  | [], [], K, h => ⟨_, h, fun q hq => by simp at hq, fun K' hK => hK⟩
  | [], [o], K, h => by
    simp only [backK] at h ⊢
    split at h
    · rename_i hc; exact ⟨_, h, fun q hq => by simp only [List.mem_singleton] at hq; simp [hq], fun K' hK => hK⟩
    · exact h.elim
  | r :: ρ, o :: os, K, h => by
    simp only [backK] at h ⊢
    split at h
    · obtain ⟨w, h1, h3, h2⟩ := backK_x h
      refine ⟨_, h1, fun q hq => ?_, fun K' hK => h2 _ hK⟩
      simp only [List.mem_cons] at hq
      rcases hq with hq | hq
      · simp [hq]
      · exact (h3 q hq).imp id fun e => by simp [e]
    · exact h.elim
  | [], _ :: _ :: _, K, h => by simp [backK] at h
  | _ :: _, [], K, h => by simp [backK] at h
theorem callK_x {cx : Cx} {f : FuncId} {self : Nat} {args : List AV} {ob : List (Option OB)} {K : AV → W → Prop} (h : callK cx f self args ob K) :
    ∃ v w, K v w ∧ (∀ q ∈ w, q.1 ∈ self :: AV.refs.refsL args) ∧ ∀ ob', Agree (self :: AV.refs.refsL args) ob ob' → ∀ K' : AV → W → Prop, K' v w → callK cx f self args ob' K' := by
  simp only [callK_eq] at h ⊢
  unfold callK0 at h ⊢
  obtain ⟨as', ρ, w, h, h1, h2, h3⟩ := argsK_x h
  rw [onlyIf_iff] at h
  obtain ⟨hap, h⟩ := h
  obtain ⟨objs, h, h4⟩ := objsK_x h
  obtain ⟨res, objs', hC, hs, h⟩ := h
  rw [renK_iff] at h
  obtain ⟨a', hr, h⟩ := h
  obtain ⟨w', h, h5, h6⟩ := backK_x h
  have hρ : ∀ x ∈ ρ, x ∈ AV.refs.refsL args := fun x hx => (h2 x hx).resolve_left (by simp)
  refine ⟨_, _, h, fun q hq => ?_, fun ob' ha K' hK => h3 ob' (ha.mono fun r hr => by simp [hr]) _ ((onlyIf_iff _ _).2 ⟨hap, h4 ob' (ha.mono fun r hr => by simp [hρ r hr]) _ ⟨res, objs', hC, ?_, (renK_iff _ _ _ _).2 ⟨a', hr, h6 _ hK⟩⟩⟩)⟩
  · rcases List.mem_append.1 hq with hq | hq
    · exact List.mem_cons_of_mem _ (h1 q hq)
    · rcases h5 q hq with e | e
      · simp [e]
      · exact List.mem_cons_of_mem _ (hρ _ e)
  · rcases hs with hs | hs
    · exact .inl hs
    · exact .inr ((ha self (by simp)).trans hs)
theorem maxK_x {l : List AV} {K : AV → Prop} (h : maxK l K) : ∃ v, K v ∧ ∀ K' : AV → Prop, K' v → maxK l K' := by
  unfold maxK at h ⊢
  split at h
  · obtain ⟨r, h1, h⟩ := h; exact ⟨_, h, fun K' hK => ⟨r, h1, hK⟩⟩
  · exact h.elim
theorem minK_x {l : List AV} {K : AV → Prop} (h : minK l K) : ∃ v, K v ∧ ∀ K' : AV → Prop, K' v → minK l K' := by
  unfold minK at h ⊢
  split at h
  · obtain ⟨r, h1, h⟩ := h; exact ⟨_, h, fun K' hK => ⟨r, h1, hK⟩⟩
  · exact h.elim
end Go.AX
end
section
namespace Go.AX
def fpOf (np : Nat) (o : Oper) (av : Operand → AV) : List Nat :=
  (match opRW o.op with
    | true => [np + o.dst.getD 0]
    | false => []) ++ (opRefs o.op).flatMap fun x => (av x).refs
def Ox (cx : Cx) (o : Oper) (av : Operand → AV) (ob : List (Option OB)) (K : AV → W → Prop) : Prop :=
  ∃ v w, K v w ∧ (opRW o.op = false → w = []) ∧ (∀ q ∈ w, q.1 ∈ fpOf cx.np o av) ∧
    ∀ av' ob', (∀ x ∈ o.op.operands.toList, av' x = av x) → Agree (fpOf cx.np o av) ob ob' → ∀ K' : AV → W → Prop, K' v w → opK cx o av' ob' K'
theorem Ox.pure {cx : Cx} {o : Oper} {av : Operand → AV} {ob : List (Option OB)} {K : AV → W → Prop} (v : AV) (hK : K v [])
    (h : ∀ av' ob', (∀ x ∈ o.op.operands.toList, av' x = av x) → Agree (fpOf cx.np o av) ob ob' → ∀ K' : AV → W → Prop, K' v [] → opK cx o av' ob' K') : Ox cx o av ob K :=
  ⟨v, [], hK, fun _ => rfl, fun q hq => by simp at hq, h⟩
theorem fp_opd {np : Nat} {o : Oper} {av : Operand → AV} {x : Operand} (hx : x ∈ o.op.operands.toList) (hf : opRefs o.op = o.op.operands.toList) : ∀ r ∈ (av x).refs, r ∈ fpOf np o av := fun _ hr =>
  List.mem_append_right _ (List.mem_flatMap.2 ⟨x, hf ▸ hx, hr⟩)
theorem fp_self {np : Nat} {o : Oper} {av : Operand → AV} (h : opRW o.op = true) : np + o.dst.getD 0 ∈ fpOf np o av := by
  unfold fpOf; rw [h]; simp
theorem parts_congr {av av' : Operand → AV} : ∀ (l : List (Nat × Operand)), (∀ x ∈ l.map (·.2), av' x = av x) → (l.map fun (i, x) => (i, av' x)) = l.map fun (i, x) => (i, av x)
  | [], _ => rfl
  | (i, x) :: l, h => by
    simp only [List.map_cons, List.mem_cons, forall_eq_or_imp] at h ⊢
    rw [h.1, parts_congr l h.2]
theorem refsL_mem {as : List AV} {r : Nat} : r ∈ AV.refs.refsL as ↔ ∃ a ∈ as, r ∈ a.refs := by
  induction as with
  | nil => simp [AV.refs.refsL]
  | cons a l ih => simp [AV.refs.refsL, ih]
theorem refs_partL {av : Operand → AV} {r : Nat} : ∀ {l : List (Nat × Operand)}, r ∈ AV.refs.refsL ((l.map fun (i, x) => (i, av x)).map (·.2)) → ∃ x ∈ l.map (·.2), r ∈ (av x).refs
  | [], h => by simp [AV.refs.refsL] at h
  | (i, x) :: l, h => by
    simp only [List.map_cons, AV.refs.refsL, List.mem_append] at h
    rcases h with h | h
    · exact ⟨x, by simp, h⟩
    · obtain ⟨y, hy, h⟩ := refs_partL h
      exact ⟨y, by simp only [List.map_cons, List.mem_cons]; exact .inr hy, h⟩
theorem nilT_refs {T : TT} {t : Nat} {a : AV} : ∀ r ∈ (nilT T t a).refs, r ∈ a.refs := by
  intro r hr
  unfold nilT at hr
  split at hr
  · split at hr
    · simp [AV.refs] at hr
    · exact hr
  · exact hr
theorem argsT_congr {T : TT} {av av' : Operand → AV} : ∀ (l : List Operand) (ts : List Nat), (∀ x ∈ l, av' x = av x) → argsT T av' l ts = argsT T av l ts
  | [], ts, _ => by simp [argsT]
  | x :: xs, [], h => by
    simp only [argsT]
    exact List.map_congr_left h
  | x :: xs, t :: ts, h => by
    simp only [argsT]
    rw [h x (by simp), argsT_congr xs ts fun y hy => h y (by simp [hy])]
theorem argsT_refs {T : TT} {av : Operand → AV} {a : AV} : ∀ {l : List Operand} {ts : List Nat}, a ∈ argsT T av l ts → ∃ x ∈ l, ∀ r ∈ a.refs, r ∈ (av x).refs
  | [], ts, h => by simp [argsT] at h
  | x :: xs, [], h => by
    simp only [argsT] at h
    obtain ⟨y, hy, rfl⟩ := List.mem_map.1 h
    exact ⟨y, hy, fun r hr => hr⟩
  | x :: xs, t :: ts, h => by
    simp only [argsT, List.mem_cons] at h
    rcases h with rfl | h
    · exact ⟨x, by simp, nilT_refs⟩
    · obtain ⟨y, hy, hr⟩ := argsT_refs h
      exact ⟨y, by simp [hy], hr⟩
theorem opK_x {cx : Cx} {o : Oper} {av : Operand → AV} {ob : List (Option OB)} {K : AV → W → Prop} (h : opK cx o av ob K) : Ox cx o av ob K := by
  have self : ∀ {ob' : List (Option OB)}, opRW o.op = true → Agree (fpOf cx.np o av) ob ob' → ob'[cx.np + o.dst.getD 0]? = ob[cx.np + o.dst.getD 0]? := fun hr ha => ha _ (fp_self hr)
  have opd : ∀ {ob' : List (Option OB)} (x : Operand), x ∈ o.op.operands.toList → opRefs o.op = o.op.operands.toList → Agree (fpOf cx.np o av) ob ob' → Agree (av x).refs ob ob' := fun x hx hf ha => ha.mono (fp_opd hx hf)
  unfold opK at h
  split at h <;> rename_i heq
  · rename_i x
    split at h
    · rename_i cv
      obtain ⟨v, w, h1, h2, h3⟩ := moveK_x h
      have hrw : opRW o.op = true := by rw [heq]; rfl
      refine ⟨v, w, h1, fun e => by rw [hrw] at e; simp at e, fun q hq => by rw [h2 q hq]; exact fp_self hrw, fun av' ob' hav ha K' hK => ?_⟩
      unfold opK; rw [heq]
      simp only
      rw [hav (.const cv) (by rw [heq]; simp [Op.operands])]
      exact h3 ob' (self hrw ha) _ hK
    · rename_i hnc
      obtain ⟨v, h1, h2⟩ := force_x h
      refine .pure v h1 fun av' ob' hav ha K' hK => ?_
      unfold opK; rw [heq]
      simp only
      rw [hav x (by rw [heq]; simp [Op.operands])]
      exact h2 (fun v => K' v []) hK
  · rename_i x
    split at h
    · rename_i cv
      obtain ⟨v, w, h1, h2, h3⟩ := moveK_x h
      have hrw : opRW o.op = true := by rw [heq]; rfl
      refine ⟨v, w, h1, fun e => by rw [hrw] at e; simp at e, fun q hq => by rw [h2 q hq]; exact fp_self hrw, fun av' ob' hav ha K' hK => ?_⟩
      unfold opK; rw [heq]
      simp only
      rw [hav (.const cv) (by rw [heq]; simp [Op.operands])]
      exact h3 ob' (self hrw ha) _ hK
    · rename_i hnc
      obtain ⟨v, h1, h2⟩ := force_x h
      refine .pure v h1 fun av' ob' hav ha K' hK => ?_
      unfold opK; rw [heq]
      simp only
      rw [hav x (by rw [heq]; simp [Op.operands])]
      exact h2 (fun v => K' v []) hK
  · rename_i c a b
    obtain ⟨v, h1, h2⟩ := pickK_x h
    refine .pure v h1 fun av' ob' hav ha K' hK => ?_
    unfold opK; rw [heq]; simp only
    rw [hav c (by rw [heq]; simp [Op.operands]), hav a (by rw [heq]; simp [Op.operands]), hav b (by rw [heq]; simp [Op.operands])]
    exact h2 (fun v => K' v []) hK
  · rename_i t
    have hrw : opRW o.op = true := by rw [heq]; rfl
    rw [onlyIf_iff] at h
    obtain ⟨hk, h⟩ := h
    have h0 := h
    rw [noO_iff] at h
    refine ⟨_, _, h.2, fun e => by rw [hrw] at e; simp at e, fun q hq => by simp only [List.mem_singleton] at hq; rw [hq]; exact fp_self hrw, fun av' ob' hav ha K' hK => ?_⟩
    unfold opK; rw [heq]; simp only
    exact (onlyIf_iff _ _).2 ⟨hk, noO_x h0 (self hrw ha) hK⟩
  · rename_i t x
    have hrw : opRW o.op = true := by rw [heq]; rfl
    have h0 := h
    rw [noO_iff, cellsK_iff] at h
    obtain ⟨hs, l, hl, h⟩ := h
    rw [onlyIf_iff] at h
    refine ⟨_, _, h.2, fun e => by rw [hrw] at e; simp at e, fun q hq => by simp only [List.mem_singleton] at hq; rw [hq]; exact fp_self hrw, fun av' ob' hav ha K' hK => ?_⟩
    unfold opK; rw [heq]; simp only
    refine noO_x h0 (self hrw ha) ?_
    rw [hav x (by rw [heq]; simp [Op.operands]), cellsK_iff]
    exact ⟨l, hl, (onlyIf_iff _ _).2 ⟨h.1, hK⟩⟩
  · rename_i t ps
    obtain ⟨v, h1, h2⟩ := buildK_x h
    refine .pure v h1 fun av' ob' hav ha K' hK => ?_
    unfold opK; rw [heq]; simp only
    rw [parts_congr (av := av) ps.toList fun x hx => hav x (by rw [heq]; simpa [Op.operands] using hx)]
    exact h2 (fun v => K' v []) hK
  · rename_i t len ps
    have hrw : opRW o.op = true := by rw [heq]; rfl
    obtain ⟨v, w, h1, h2, h3⟩ := buildSliceK_x h
    have hfp : ∀ r ∈ (cx.np + o.dst.getD 0) :: AV.refs.refsL ((ps.toList.map fun (i, x) => (i, av x)).map (·.2)), r ∈ fpOf cx.np o av := by
      intro r hr
      rcases List.mem_cons.1 hr with hr | hr
      · rw [hr]; exact fp_self hrw
      · obtain ⟨x, hx, hr⟩ := refs_partL hr
        exact fp_opd (by rw [heq]; simpa [Op.operands] using hx) (by rw [heq]; rfl) r hr
    refine ⟨v, w, h1, fun e => by rw [hrw] at e; simp at e, fun q hq => hfp _ (h2 q hq), fun av' ob' hav ha K' hK => ?_⟩
    unfold opK; rw [heq]; simp only
    rw [parts_congr (av := av) ps.toList fun x hx => hav x (by rw [heq]; simpa [Op.operands] using hx)]
    exact h3 ob' (ha.mono hfp) _ hK
  · rename_i t x
    obtain ⟨v, h1, h2⟩ := loadK_x h
    refine .pure v h1 fun av' ob' hav ha K' hK => ?_
    unfold opK; rw [heq]; simp only
    rw [hav x (by rw [heq]; simp [Op.operands])]
    exact h2 ob' (opd x (by rw [heq]; simp [Op.operands]) (by rw [heq]; rfl) ha) (fun v => K' v []) hK
  · rename_i t a x
    have hrw : opRW o.op = true := by rw [heq]; rfl
    obtain ⟨v, w, h1, h2, h3⟩ := storeK_x h
    refine ⟨v, w, h1, fun e => by rw [hrw] at e; simp at e, fun q hq => fp_opd (x := a) (by rw [heq]; simp [Op.operands]) (by rw [heq]; rfl) _ (h2 q hq), fun av' ob' hav ha K' hK => ?_⟩
    unfold opK; rw [heq]; simp only
    rw [hav a (by rw [heq]; simp [Op.operands]), hav x (by rw [heq]; simp [Op.operands])]
    exact h3 ob' (opd a (by rw [heq]; simp [Op.operands]) (by rw [heq]; rfl) ha) _ hK
  · rename_i x
    split at h
    all_goals first | exact h.elim | skip
    all_goals
      rename_i hx
      refine .pure _ h fun av' ob' hav ha K' hK => ?_
      unfold opK; rw [heq]; simp only
      rw [hav x (by rw [heq]; simp [Op.operands]), hx]
      exact hK
  · rename_i op t x y _
    obtain ⟨v, h1, h2⟩ := binK_x h
    refine .pure v h1 fun av' ob' hav ha K' hK => ?_
    unfold opK; rw [heq]; simp only
    rw [hav x (by rw [heq]; simp [Op.operands]), hav y (by rw [heq]; simp [Op.operands])]
    exact h2 (fun v => K' v []) hK
  · rename_i op t x
    obtain ⟨v, h1, h2⟩ := unK_x h
    refine .pure v h1 fun av' ob' hav ha K' hK => ?_
    unfold opK; rw [heq]; simp only
    rw [hav x (by rw [heq]; simp [Op.operands])]
    exact h2 (fun v => K' v []) hK
  · rename_i src dst x
    obtain ⟨v, h1, h2⟩ := convK_x h
    refine .pure v h1 fun av' ob' hav ha K' hK => ?_
    unfold opK; rw [heq]; simp only
    rw [hav x (by rw [heq]; simp [Op.operands])]
    exact h2 ob' (opd x (by rw [heq]; simp [Op.operands]) (by rw [heq]; rfl) ha) (fun v => K' v []) hK
  · rename_i t x i
    obtain ⟨a, b, c, h, hf⟩ := fieldOff_x h
    split at h
    · rename_i r off hx
      refine .pure _ h fun av' ob' hav ha K' hK => ?_
      unfold opK; rw [heq]; simp only
      rw [hav x (by rw [heq]; simp [Op.operands]), hx]
      exact hf _ hK
    · rename_i cs hx
      rw [dropK_iff, takeK_iff] at h
      refine .pure _ h fun av' ob' hav ha K' hK => ?_
      unfold opK; rw [heq]; simp only
      rw [hav x (by rw [heq]; simp [Op.operands]), hx]
      refine hf _ ?_
      simp only
      rw [dropK_iff, takeK_iff]
      exact hK
    · rename_i r n i k hx
      obtain ⟨q, h, ho⟩ := findO_x h
      cases q with
      | box => exact h.elim
      | map => exact h.elim
      | amap => exact h.elim
      | gone => exact h.elim
      | row e sz es f =>
        refine .pure _ h.2 fun av' ob' hav ha K' hK => ?_
        unfold opK; rw [heq]; simp only
        rw [hav x (by rw [heq]; simp [Op.operands]), hx]
        exact hf _ (ho ob' (opd x (by rw [heq]; simp [Op.operands]) (by rw [heq]; rfl) ha r (by rw [hx]; simp [AV.refs])) _ ⟨h.1, hK⟩)
    · exact h.elim
  · rename_i t x i
    obtain ⟨v, h1, h2⟩ := fieldK_x h
    refine .pure v h1 fun av' ob' hav ha K' hK => ?_
    unfold opK; rw [heq]; simp only
    rw [hav x (by rw [heq]; simp [Op.operands])]
    exact h2 (fun v => K' v []) hK
  · rename_i t x y
    obtain ⟨v, h1, h2⟩ := indexAddrK_x h
    refine .pure v h1 fun av' ob' hav ha K' hK => ?_
    unfold opK; rw [heq]; simp only
    rw [hav x (by rw [heq]; simp [Op.operands]), hav y (by rw [heq]; simp [Op.operands])]
    exact h2 ob' (opd x (by rw [heq]; simp [Op.operands]) (by rw [heq]; rfl) ha) (fun v => K' v []) hK
  · rename_i t x y
    obtain ⟨v, h1, h2⟩ := indexK_x h
    refine .pure v h1 fun av' ob' hav ha K' hK => ?_
    unfold opK; rw [heq]; simp only
    rw [hav x (by rw [heq]; simp [Op.operands]), hav y (by rw [heq]; simp [Op.operands])]
    exact h2 (fun v => K' v []) hK
  · rename_i t
    have hrw : opRW o.op = true := by rw [heq]; rfl
    split at h
    · rename_i k e hk
      have h0 := h
      rw [noO_iff] at h
      obtain ⟨_, h⟩ := h
      refine ⟨_, _, h, fun e => by rw [hrw] at e; simp at e, fun q hq => by simp only [List.mem_singleton] at hq; rw [hq]; exact fp_self hrw, fun av' ob' hav ha K' hK => ?_⟩
      unfold opK; rw [heq]; simp only [hk]
      exact noO_x h0 (self hrw ha) hK
    · exact h.elim
  · rename_i t x y ok
    obtain ⟨v, h1, h2⟩ := lookK_x h
    refine .pure v h1 fun av' ob' hav ha K' hK => ?_
    unfold opK; rw [heq]; simp only
    rw [hav x (by rw [heq]; simp [Op.operands]), hav y (by rw [heq]; simp [Op.operands])]
    exact h2 ob' (opd x (by rw [heq]; simp [Op.operands]) (by rw [heq]; rfl) ha) (fun v => K' v []) hK
  · rename_i t mm k v
    have hrw : opRW o.op = true := by rw [heq]; rfl
    obtain ⟨u, w, h1, h2, h3⟩ := mapPutK_x h
    have hfp : ∀ r ∈ (av mm).refs ++ (av v).refs, r ∈ fpOf cx.np o av := by
      intro r hr
      rcases List.mem_append.1 hr with hr | hr
      · exact fp_opd (x := mm) (by rw [heq]; simp [Op.operands]) (by rw [heq]; rfl) r hr
      · exact fp_opd (x := v) (by rw [heq]; simp [Op.operands]) (by rw [heq]; rfl) r hr
    refine ⟨u, w, h1, fun e => by rw [hrw] at e; simp at e, fun q hq => hfp _ (h2 q hq), fun av' ob' hav ha K' hK => ?_⟩
    unfold opK; rw [heq]; simp only
    rw [hav mm (by rw [heq]; simp [Op.operands]), hav k (by rw [heq]; simp [Op.operands]), hav v (by rw [heq]; simp [Op.operands])]
    exact h3 ob' (ha.mono hfp) _ hK
  · rename_i t mm k v
    have hrw : opRW o.op = true := by rw [heq]; rfl
    obtain ⟨u, w, h1, h2, h3⟩ := mapPutK_x h
    have hfp : ∀ r ∈ (av mm).refs ++ (av v).refs, r ∈ fpOf cx.np o av := by
      intro r hr
      rcases List.mem_append.1 hr with hr | hr
      · exact fp_opd (x := mm) (by rw [heq]; simp [Op.operands]) (by rw [heq]; rfl) r hr
      · exact fp_opd (x := v) (by rw [heq]; simp [Op.operands]) (by rw [heq]; rfl) r hr
    refine ⟨u, w, h1, fun e => by rw [hrw] at e; simp at e, fun q hq => hfp _ (h2 q hq), fun av' ob' hav ha K' hK => ?_⟩
    unfold opK; rw [heq]; simp only
    rw [hav mm (by rw [heq]; simp [Op.operands]), hav k (by rw [heq]; simp [Op.operands]), hav v (by rw [heq]; simp [Op.operands])]
    exact h3 ob' (ha.mono hfp) _ hK
  · rename_i t x lo hi
    have hrw : opRW o.op = true := by rw [heq]; rfl
    obtain ⟨v, w, h1, _, h2, h3⟩ := sliceK_x h
    have hfp : ∀ r ∈ (cx.np + o.dst.getD 0) :: (nilT cx.T t (av x)).refs, r ∈ fpOf cx.np o av := by
      intro r hr
      rcases List.mem_cons.1 hr with hr | hr
      · rw [hr]; exact fp_self hrw
      refine fp_opd (x := x) (by rw [heq]; simp [Op.operands]) (by rw [heq]; rfl) r ?_
      unfold nilT at hr
      split at hr
      · split at hr
        · simp [AV.refs] at hr
        · exact hr
      · exact hr
    refine ⟨v, w, h1, fun e => by rw [hrw] at e; simp at e, fun q hq => hfp _ (h2 q hq), fun av' ob' hav ha K' hK => ?_⟩
    unfold opK; rw [heq]; simp only
    have e1 : nilT cx.T t (av' x) = nilT cx.T t (av x) := by rw [hav x (by rw [heq]; simp [Op.operands])]
    have e2 : lo.map av' = lo.map av := by
      cases lo with
      | none => rfl
      | some y => simp only [Option.map_some]; rw [hav y (by rw [heq]; simp [Op.operands])]
    have e3 : hi.map av' = hi.map av := by
      cases hi with
      | none => rfl
      | some y => simp only [Option.map_some]; rw [hav y (by rw [heq]; simp [Op.operands])]
    rw [e1, e2, e3]
    exact h3 ob' (ha.mono hfp) _ hK
  · rename_i t x lo hi mx
    have hrw : opRW o.op = true := by rw [heq]; rfl
    obtain ⟨v, w, h1, _, h2, h3⟩ := slice3K_x h
    have hfp : ∀ r ∈ (cx.np + o.dst.getD 0) :: (av x).refs, r ∈ fpOf cx.np o av := by
      intro r hr
      rcases List.mem_cons.1 hr with hr | hr
      · rw [hr]; exact fp_self hrw
      exact fp_opd (x := x) (by rw [heq]; simp [Op.operands]) (by rw [heq]; rfl) r hr
    refine ⟨v, w, h1, fun e => by rw [hrw] at e; simp at e, fun q hq => hfp _ (h2 q hq), fun av' ob' hav ha K' hK => ?_⟩
    unfold opK; rw [heq]; simp only
    have e1 : av' x = av x := hav x (by rw [heq]; simp [Op.operands])
    have e2 : lo.map av' = lo.map av := by
      cases lo with
      | none => rfl
      | some y => simp only [Option.map_some]; rw [hav y (by rw [heq]; simp [Op.operands])]
    have e3 : hi.map av' = hi.map av := by
      cases hi with
      | none => rfl
      | some y => simp only [Option.map_some]; rw [hav y (by rw [heq]; simp [Op.operands])]
    have e4 : av' mx = av mx := hav mx (by rw [heq]; simp [Op.operands])
    rw [e1, e2, e3, e4]
    exact h3 ob' (ha.mono hfp) _ hK
  · rename_i t n c
    have hrw : opRW o.op = true := by rw [heq]; rfl
    unfold makeK at h
    split at h
    · rename_i e n' c' hk hn hc
      have h0 := h
      rw [noO_iff] at h
      obtain ⟨_, h⟩ := h
      rw [onlyIf_iff] at h
      obtain ⟨h1, hb, z, hz, zs, hzs, h⟩ := h
      refine ⟨_, _, h, fun e => by rw [hrw] at e; simp at e, fun q hq => by simp only [List.mem_singleton] at hq; rw [hq]; exact fp_self hrw, fun av' ob' hav ha K' hK => ?_⟩
      unfold opK; rw [heq]; simp only
      unfold makeK
      rw [hav n (by rw [heq]; simp [Op.operands]), hav c (by rw [heq]; simp [Op.operands]), hk, hn, hc]
      simp only
      refine noO_x h0 (self hrw ha) ?_
      exact (onlyIf_iff _ _).2 ⟨h1, hb, z, hz, zs, hzs, hK⟩
    · exact h.elim
  · rename_i x i
    split at h
    · rename_i vs hx
      split at h
      · rename_i a hi
        obtain ⟨v, h1, h2⟩ := force_x h
        refine .pure v h1 fun av' ob' hav ha K' hK => ?_
        unfold opK; rw [heq]; simp only
        rw [hav x (by rw [heq]; simp [Op.operands]), hx]
        simp only [hi]
        exact h2 (fun v => K' v []) hK
      · exact h.elim
    · exact h.elim
  · rename_i f first caps
    split at h
    · rename_i hf
      refine .pure _ h fun av' ob' hav ha K' hK => ?_
      unfold opK; rw [heq]; simp only [hf]
      rw [List.map_congr_left (g := av) fun x hx => hav x (by rw [heq]; simp only [Op.operands, Array.toList_append, List.mem_append]; exact .inr hx)]
      exact hK
    · exact h.elim
  · rename_i c
    split at h
    · rename_i x hc
      have hops : o.op.operands.toList = x :: c.args.toList := by rw [heq]; simp [Op.operands, Call.operands, hc]
      have hrw : opRW o.op = true := by rw [heq]; simp [opRW, hc]
      split at h
      · rename_i f caps hx
        obtain ⟨v, w, h1, h2, h3⟩ := callK_x h
        have hfp : ∀ r ∈ (cx.np + o.dst.getD 0) :: AV.refs.refsL (argsT cx.T av c.args.toList c.argTypes.toList ++ caps), r ∈ fpOf cx.np o av := by
          intro r hr
          rcases List.mem_cons.1 hr with hr | hr
          · rw [hr]; exact fp_self hrw
          · obtain ⟨a, ha, hr⟩ := refsL_mem.1 hr
            rcases List.mem_append.1 ha with ha | ha
            · obtain ⟨y, hy, hr2⟩ := argsT_refs ha
              exact fp_opd (x := y) (by rw [hops]; simp only [List.mem_cons]; exact .inr hy) (by rw [heq]; rfl) r (hr2 r hr)
            · exact fp_opd (x := x) (by rw [hops]; simp) (by rw [heq]; rfl) r (by rw [hx]; simp only [AV.refs]; exact refsL_mem.2 ⟨a, ha, hr⟩)
        refine ⟨v, w, h1, fun e => by rw [hrw] at e; simp at e, fun q hq => hfp _ (h2 q hq), fun av' ob' hav ha K' hK => ?_⟩
        unfold opK; rw [heq]; simp only [hc]
        rw [hav x (by rw [hops]; simp), hx, argsT_congr (av := av) _ _ fun y hy => hav y (by rw [hops]; simp only [List.mem_cons]; exact .inr hy)]
        exact h3 ob' (ha.mono hfp) _ hK
      · exact h.elim
    · rename_i hc
      have hops : o.op.operands.toList = c.args.toList := by rw [heq]; simp [Op.operands, Call.operands, hc]
      split at h
      · rename_i x t hx ht
        obtain ⟨v, h1, h2⟩ := lenK_x h
        refine .pure v h1 fun av' ob' hav ha K' hK => ?_
        unfold opK; rw [heq]; simp only [hc, hx, ht]
        rw [hav x (by rw [hops, hx]; simp)]
        exact h2 (fun v => K' v []) hK
      · exact h.elim
    · rename_i hc
      have hops : o.op.operands.toList = c.args.toList := by rw [heq]; simp [Op.operands, Call.operands, hc]
      have hrw : opRW o.op = true := by rw [heq]; simp [opRW, hc]
      split at h
      · rename_i x y t u hx ht
        rw [onlyIf_iff] at h
        obtain ⟨h0, h⟩ := h
        obtain ⟨v, w, h1, h2, h3⟩ := appendK_x h
        have hfp : ∀ r ∈ (cx.np + o.dst.getD 0) :: ((nilT cx.T t (av x)).refs ++ (nilT cx.T t (av y)).refs), r ∈ fpOf cx.np o av := by
          intro r hr
          rcases List.mem_cons.1 hr with hr | hr
          · rw [hr]; exact fp_self hrw
          · rcases List.mem_append.1 hr with hr | hr
            · exact fp_opd (x := x) (by rw [hops, hx]; simp) (by rw [heq]; rfl) r (nilT_refs r hr)
            · exact fp_opd (x := y) (by rw [hops, hx]; simp) (by rw [heq]; rfl) r (nilT_refs r hr)
        refine ⟨v, w, h1, fun e => by rw [hrw] at e; simp at e, fun q hq => hfp _ (by
          rcases List.mem_cons.1 (h2 q hq) with e | e
          · rw [e]; simp
          · exact List.mem_cons_of_mem _ (List.mem_append_left _ e)), fun av' ob' hav ha K' hK => ?_⟩
        unfold opK; rw [heq]; simp only [hc, hx, ht]
        rw [hav x (by rw [hops, hx]; simp), hav y (by rw [hops, hx]; simp)]
        exact (onlyIf_iff _ _).2 ⟨h0, h3 ob' (ha.mono hfp) _ hK⟩
      · exact h.elim
    · rename_i hc
      have hops : o.op.operands.toList = c.args.toList := by rw [heq]; simp [Op.operands, Call.operands, hc]
      have hrw : opRW o.op = true := by rw [heq]; simp [opRW, hc]
      split at h
      · rename_i x t hx ht
        split at h
        · rename_i r a n m hxo
          obtain ⟨v, w, h1, h2, h3⟩ := clearK_x h
          have hfp : ∀ q ∈ [r], q ∈ fpOf cx.np o av := by
            intro q hq
            refine fp_opd (x := x) (by rw [hops, hx]; simp) (by rw [heq]; rfl) q ?_
            rw [hxo]; simpa [AV.refs] using hq
          refine ⟨v, w, h1, fun e => by rw [hrw] at e; simp at e, fun q hq => hfp _ (h2 q hq), fun av' ob' hav ha K' hK => ?_⟩
          unfold opK; rw [heq]; simp only [hc, hx, ht]
          rw [hav x (by rw [hops, hx]; simp), hxo]
          exact h3 ob' (ha.mono hfp) _ hK
        · exact h.elim
      · exact h.elim
    · rename_i hc
      have hops : o.op.operands.toList = c.args.toList := by rw [heq]; simp [Op.operands, Call.operands, hc]
      split at h
      · rename_i x y hx
        obtain ⟨v, h1, h2⟩ := maxK_x h
        refine .pure v h1 fun av' ob' hav ha K' hK => ?_
        unfold opK; rw [heq]; simp only [hc, hx]
        rw [hav x (by rw [hops, hx]; simp), hav y (by rw [hops, hx]; simp)]
        exact h2 (fun v => K' v []) hK
      · exact h.elim
    · rename_i hc
      have hops : o.op.operands.toList = c.args.toList := by rw [heq]; simp [Op.operands, Call.operands, hc]
      split at h
      · rename_i x y hx
        obtain ⟨v, h1, h2⟩ := minK_x h
        refine .pure v h1 fun av' ob' hav ha K' hK => ?_
        unfold opK; rw [heq]; simp only [hc, hx]
        rw [hav x (by rw [hops, hx]; simp), hav y (by rw [hops, hx]; simp)]
        exact h2 (fun v => K' v []) hK
      · exact h.elim
    · exact h.elim
  · exact h.elim
theorem opK_xs {cx : Cx} {o : Oper} {av : Operand → AV} {ob : List (Option OB)} {K : AV → W → Prop} (h : opK cx o av ob K) :
    ∃ v w, K v w ∧ (opRW o.op = false → w = []) ∧ (isSl o.op = true → v.isOsl = true → w = []) ∧ (∀ x, apX o.op = some x → ∀ q ∈ w, q.1 ∈ (cx.np + o.dst.getD 0) :: (av x).refs) ∧ (∀ q ∈ w, q.1 ∈ fpOf cx.np o av) ∧
      ∀ av' ob', (∀ x ∈ o.op.operands.toList, av' x = av x) → Agree (fpOf cx.np o av) ob ob' → ∀ K' : AV → W → Prop, K' v w → opK cx o av' ob' K' := by
  by_cases hs : isSl o.op = true
  case neg =>
    cases hap : apX o.op with
    | none =>
      obtain ⟨v, w, h1, h2, h3, h4⟩ := opK_x h
      exact ⟨v, w, h1, h2, fun e => absurd e hs, fun x e => by simp at e, h3, h4⟩
    | some x =>
      obtain ⟨c, y, heq, hc, hx⟩ : ∃ c y, o.op = .call c ∧ c.callee = .builtin .append ∧ c.args.toList = [x, y] := by
        unfold apX at hap
        split at hap
        · rename_i c heq
          split at hap
          · rename_i x' y' hc hx
            simp only [Option.some.injEq] at hap
            subst hap
            exact ⟨c, _, heq, hc, hx⟩
          · simp at hap
        · simp at hap
      have hops : o.op.operands.toList = c.args.toList := by rw [heq]; simp [Op.operands, Call.operands, hc]
      have hrw : opRW o.op = true := by rw [heq]; simp [opRW, hc]
      unfold opK at h
      rw [heq] at h
      simp only [hc, hx] at h
      split at h
      · rename_i x' y' t u hx' ht
        simp only [List.cons.injEq, and_true] at hx'
        obtain ⟨rfl, rfl⟩ := hx'
        rw [onlyIf_iff] at h
        obtain ⟨h0, h⟩ := h
        obtain ⟨v, w, h1, h2, h3⟩ := appendK_x h
        have hfp : ∀ r ∈ (cx.np + o.dst.getD 0) :: ((nilT cx.T t (av x)).refs ++ (nilT cx.T t (av y)).refs), r ∈ fpOf cx.np o av := by
          intro r hr
          rcases List.mem_cons.1 hr with hr | hr
          · rw [hr]; exact fp_self hrw
          · rcases List.mem_append.1 hr with hr | hr
            · exact fp_opd (x := x) (by rw [hops, hx]; simp) (by rw [heq]; rfl) r (nilT_refs r hr)
            · exact fp_opd (x := y) (by rw [hops, hx]; simp) (by rw [heq]; rfl) r (nilT_refs r hr)
        refine ⟨v, w, h1, fun e => by rw [hrw] at e; simp at e, fun e => absurd e hs, fun x2 e q hq => ?_, fun q hq => hfp _ (by
          rcases List.mem_cons.1 (h2 q hq) with e | e
          · rw [e]; simp
          · exact List.mem_cons_of_mem _ (List.mem_append_left _ e)), fun av' ob' hav ha K' hK => ?_⟩
        · simp only [Option.some.injEq] at e
          subst e
          rcases List.mem_cons.1 (h2 q hq) with e | e
          · rw [e]; simp
          · exact List.mem_cons_of_mem _ (nilT_refs _ e)
        · unfold opK; rw [heq]; simp only [hc, hx, ht]
          rw [hav x (by rw [hops, hx]; simp), hav y (by rw [hops, hx]; simp)]
          exact (onlyIf_iff _ _).2 ⟨h0, h3 ob' (ha.mono hfp) _ hK⟩
      · exact h.elim
  obtain ⟨t, x, lo, hi, mx, heq⟩ : ∃ t x lo hi mx, o.op = .slice t x lo hi mx := by
    revert hs
    cases o.op <;> simp [isSl]
  cases mx with
  | some y =>
    unfold opK at h
    rw [heq] at h
    simp only at h
    have hrw : opRW o.op = true := by rw [heq]; rfl
    obtain ⟨v, w, h1, hos, h2, h3⟩ := slice3K_x h
    have hfp : ∀ r ∈ (cx.np + o.dst.getD 0) :: (av x).refs, r ∈ fpOf cx.np o av := by
      intro r hr
      rcases List.mem_cons.1 hr with hr | hr
      · rw [hr]; exact fp_self hrw
      exact fp_opd (x := x) (by rw [heq]; simp [Op.operands]) (by rw [heq]; rfl) r hr
    refine ⟨v, w, h1, fun e => by rw [hrw] at e; simp at e, fun _ => hos, fun x2 e => by rw [heq] at e; simp [apX] at e, fun q hq => hfp _ (h2 q hq), fun av' ob' hav ha K' hK => ?_⟩
    unfold opK; rw [heq]; simp only
    have e1 : av' x = av x := hav x (by rw [heq]; simp [Op.operands])
    have e2 : lo.map av' = lo.map av := by
      cases lo with
      | none => rfl
      | some y => simp only [Option.map_some]; rw [hav y (by rw [heq]; simp [Op.operands])]
    have e3 : hi.map av' = hi.map av := by
      cases hi with
      | none => rfl
      | some y => simp only [Option.map_some]; rw [hav y (by rw [heq]; simp [Op.operands])]
    have e4 : av' y = av y := hav y (by rw [heq]; simp [Op.operands])
    rw [e1, e2, e3, e4]
    exact h3 ob' (ha.mono hfp) _ hK
  | none =>
  unfold opK at h
  rw [heq] at h
  simp only at h
  have hrw : opRW o.op = true := by rw [heq]; rfl
  obtain ⟨v, w, h1, hos, h2, h3⟩ := sliceK_x h
  have hfp : ∀ r ∈ (cx.np + o.dst.getD 0) :: (nilT cx.T t (av x)).refs, r ∈ fpOf cx.np o av := by
    intro r hr
    rcases List.mem_cons.1 hr with hr | hr
    · rw [hr]; exact fp_self hrw
    refine fp_opd (x := x) (by rw [heq]; simp [Op.operands]) (by rw [heq]; rfl) r ?_
    unfold nilT at hr
    split at hr
    · split at hr
      · simp [AV.refs] at hr
      · exact hr
    · exact hr
  refine ⟨v, w, h1, fun e => by rw [hrw] at e; simp at e, fun _ => hos, fun x2 e => by rw [heq] at e; simp [apX] at e, fun q hq => hfp _ (h2 q hq), fun av' ob' hav ha K' hK => ?_⟩
  unfold opK; rw [heq]; simp only
  have e1 : nilT cx.T t (av' x) = nilT cx.T t (av x) := by rw [hav x (by rw [heq]; simp [Op.operands])]
  have e2 : lo.map av' = lo.map av := by
    cases lo with
    | none => rfl
    | some y => simp only [Option.map_some]; rw [hav y (by rw [heq]; simp [Op.operands])]
  have e3 : hi.map av' = hi.map av := by
    cases hi with
    | none => rfl
    | some y => simp only [Option.map_some]; rw [hav y (by rw [heq]; simp [Op.operands])]
  rw [e1, e2, e3]
  exact h3 ob' (ha.mono hfp) _ hK
end Go.AX
end
section
namespace Go.AX
def app (dst : Option Nat) (v : AV) (w : W) (st : ASt) : ASt := ⟨putL st.tm dst v, wrL st.ob w⟩
def Look (ops : Array Oper) (o : Oper) (st st' : ASt) : Prop := ∀ t ∈ o.looksAt ops, st'.tm.getD t .dead = st.tm.getD t .dead
structure StpE (cx : Cx) (ops : Array Oper) (o : Oper) (st : ASt) (e : List Nat × List Nat) (v : AV) (w : W) : Prop where
  ee : e.1 = opFp cx.np o st.tm
  wr : ∀ q ∈ w, q.1 ∈ e.2
  sub : ∀ q ∈ w, q.1 ∈ e.1
  go : ∀ st', Look ops o st st' → Agree e.1 st.ob st'.ob → ∀ K : ASt → Prop, K (app o.dst v w st') → stepK cx ops o st' K
theorem look_evO {ops : Array Oper} {o : Oper} {st st' : ASt} (h : Look ops o st st') : ∀ x ∈ o.op.operands.toList, evO st'.tm x = evO st.tm x := by
  intro x hx
  cases x with
  | tmp t => exact h t (List.mem_append_left _ (List.mem_filterMap.2 ⟨.tmp t, hx, rfl⟩))
  | _ => rfl
theorem flatMap_congr' {α β : Type} {f g : α → List β} : ∀ {l : List α}, (∀ x ∈ l, f x = g x) → l.flatMap f = l.flatMap g
  | [], _ => rfl
  | x :: l, h => by
    simp only [List.flatMap_cons]
    rw [h x (by simp), flatMap_congr' fun y hy => h y (by simp [hy])]
theorem look_fp {np : Nat} {ops : Array Oper} {o : Oper} {st st' : ASt} (h : Look ops o st st') : opFp np o st'.tm = opFp np o st.tm := by
  unfold opFp
  congr 1
  refine flatMap_congr' fun x hx => ?_
  have hm : x ∈ o.op.operands.toList := by
    unfold opRefs at hx
    split at hx
    all_goals first
      | (simp at hx; done)
      | exact hx
  rw [look_evO h x hm]
theorem Look.trans {ops : Array Oper} {o : Oper} {a b c : ASt} (h : Look ops o a b) (k : Look ops o b c) : Look ops o a c := fun t ht => (k t ht).trans (h t ht)
theorem Agree.trans {rs : List Nat} {a b c : List (Option OB)} (h : Agree rs a b) (k : Agree rs b c) : Agree rs a c := fun t ht => (k t ht).trans (h t ht)
theorem Look.symm {ops : Array Oper} {o : Oper} {a b : ASt} (h : Look ops o a b) : Look ops o b a := fun t ht => (h t ht).symm
theorem Agree.symm {rs : List Nat} {a b : List (Option OB)} (h : Agree rs a b) : Agree rs b a := fun t ht => (h t ht).symm
theorem StpE.move {cx : Cx} {ops : Array Oper} {o : Oper} {st st2 : ASt} {e : List Nat × List Nat} {v : AV} {w : W} (h : StpE cx ops o st e v w) (hl : Look ops o st st2) (ha : Agree e.1 st.ob st2.ob) : StpE cx ops o st2 e v w :=
  ⟨by rw [look_fp hl]; exact h.ee, h.wr, h.sub, fun st' hl' ha' K hK => h.go st' (hl.trans hl') (ha.trans ha') K hK⟩
theorem set_known {tm : List AV} {t : Nat} {a : AV} (h : tm.getD t .dead = a) : tm.set t a = tm := by
  by_cases ht : t < tm.length
  · have : tm[t] = a := by simpa [ht] using h
    rw [← this]; exact List.set_getElem_self ht
  · exact List.set_eq_of_length_le (by omega)
theorem guardK_x {ops : Array Oper} {o : Oper} {tm : List AV} {yes no : List AV → Prop} (h : guardK ops o tm yes no) :
    (yes tm ∧ ∀ tm' yes' no', (∀ t ∈ o.looksAt ops, tm'.getD t .dead = tm.getD t .dead) → yes' tm' → guardK ops o tm' yes' no') ∨
    (no tm ∧ ∀ tm' yes' no', (∀ t ∈ o.looksAt ops, tm'.getD t .dead = tm.getD t .dead) → no' tm' → guardK ops o tm' yes' no') := by
  unfold guardK at h ⊢
  cases hg : o.guard with
  | none => simp only [hg] at h ⊢; exact .inl ⟨h, fun _ _ _ _ hy => hy⟩
  | some g =>
    obtain ⟨j, want⟩ := g
    simp only [hg] at h ⊢
    cases hd : (ops[j]?).bind (·.dst) with
    | none => simp only [hd] at h
    | some t =>
      simp only [hd] at h ⊢
      have hm : t ∈ o.looksAt ops := List.mem_append_right _ (by rw [hg]; simp [hd])
      split at h
      · rename_i b hb
        have hs : ∀ {tm' : List AV}, tm'.getD t .dead = tm.getD t .dead → tm'.set t (.b b) = tm' := fun hq => set_known (hq.trans hb)
        have hs0 := hs (tm' := tm) rfl
        cases b <;> cases want <;> simp only [selK, lsetK_iff] at h <;> rw [hs0] at h
        · exact .inl ⟨h, fun tm' yes' no' hl hy => by rw [hl t hm, hb]; simp only [selK, lsetK_iff]; rw [hs (hl t hm)]; exact hy⟩
        · exact .inr ⟨h, fun tm' yes' no' hl hy => by rw [hl t hm, hb]; simp only [selK, lsetK_iff]; rw [hs (hl t hm)]; exact hy⟩
        · exact .inr ⟨h, fun tm' yes' no' hl hy => by rw [hl t hm, hb]; simp only [selK, lsetK_iff]; rw [hs (hl t hm)]; exact hy⟩
        · exact .inl ⟨h, fun tm' yes' no' hl hy => by rw [hl t hm, hb]; simp only [selK, lsetK_iff]; rw [hs (hl t hm)]; exact hy⟩
      · rename_i vs hb
        exact .inr ⟨h, fun tm' yes' no' hl hy => by rw [hl t hm, hb]; exact hy⟩
      · exact h.elim
theorem stepK_x {cx : Cx} {ops : Array Oper} {o : Oper} {st : ASt} {K : ASt → Prop} (h : stepK cx ops o st K) :
    ∃ v w, K (app o.dst v w st) ∧ StpE cx ops o st (opFp cx.np o st.tm, evWr cx.np o st.tm (app o.dst v w st).tm) v w := by
  obtain ⟨tm, ob⟩ := st
  simp only [stepK] at h
  rcases guardK_x h with ⟨h, hg⟩ | ⟨h, hg⟩
  · obtain ⟨v, w, h1, h2, hos, hap, h3, h4⟩ := opK_xs h
    rw [putK_iff, wrK_iff] at h1
    refine ⟨v, w, h1, rfl, fun q hq => ?_, h3, fun st' hl ha K hK => ?_⟩
    · simp only [evWr]
      split
      · rename_i hs
        split
        · rename_i d hd
          split
          · rename_i e
            have := hos hs (by
              simp only [app, hd, putL, List.getD_eq_getElem?_getD] at e
              by_cases hlt : d < tm.length
              · rw [List.getElem?_set_self (by simpa using hlt)] at e
                exact e
              · rw [List.getElem?_eq_none (by simpa using hlt)] at e
                simp [AV.isOsl] at e)
            rw [this] at hq; simp at hq
          · exact h3 q hq
        · exact h3 q hq
      · split
        · split
          · rename_i x hx; exact hap x hx q hq
          · exact h3 q hq
        · rename_i e; rw [h2 e] at hq; simp at hq
    obtain ⟨tm', ob'⟩ := st'
    simp only [stepK]
    refine hg tm' _ _ hl (h4 _ ob' (look_evO hl) ha _ ?_)
    rw [putK_iff, wrK_iff]
    exact hK
  · rw [putK_iff] at h
    refine ⟨.tup [], [], h, rfl, fun q hq => by simp at hq, fun q hq => by simp at hq, fun st' hl ha K hK => ?_⟩
    obtain ⟨tm', ob'⟩ := st'
    simp only [stepK]
    refine hg tm' _ _ hl ?_
    rw [putK_iff]
    exact hK
def Run (cx : Cx) (ops : Array Oper) (f : Nat → List Nat × List Nat) (fin : ASt) : List Nat → ASt → Prop
  | [], st => st = fin
  | i :: l, st => ∃ o v w, ops[i]? = some o ∧ StpE cx ops o st (f i) v w ∧ Run cx ops f fin l (app o.dst v w st)
structure Free (ops : Array Oper) (f : Nat → List Nat × List Nat) (j i : Nat) : Prop where
  apart : ∀ a b, ops[j]? = some a → ops[i]? = some b → a.apart ops b = true
  conf : (∀ r ∈ (f j).2, r ∉ (f i).1) ∧ ∀ r ∈ (f j).1, r ∉ (f i).2
theorem putL_look {tm : List AV} {d : Option Nat} {v : AV} {t : Nat} (h : ∀ x, d = some x → x ≠ t) : (putL tm d v).getD t .dead = tm.getD t .dead := by
  cases d with
  | none => rfl
  | some x =>
    simp only [putL, List.getD_eq_getElem?_getD]
    rw [List.getElem?_set_ne (h x rfl)]
theorem wrL_other {r : Nat} : ∀ (w : W) (ob : List (Option OB)), (∀ q ∈ w, q.1 ≠ r) → (wrL ob w)[r]? = ob[r]?
  | [], ob, _ => rfl
  | (x, o) :: w, ob, h => by
    simp only [wrL]
    rw [wrL_other w _ fun q hq => h q (by simp [hq]), List.getElem?_set_ne (h (x, o) (by simp))]
theorem wrL_set_comm {r : Nat} {o : Option OB} : ∀ (w : W) (ob : List (Option OB)), (∀ q ∈ w, q.1 ≠ r) → wrL (ob.set r o) w = (wrL ob w).set r o
  | [], ob, _ => rfl
  | (x, y) :: w, ob, h => by
    simp only [wrL]
    rw [List.set_comm _ _ (Ne.symm (h (x, y) (by simp))), wrL_set_comm w _ fun q hq => h q (by simp [hq])]
theorem wrL_comm : ∀ (w w' : W) (ob : List (Option OB)), (∀ q ∈ w, ∀ q' ∈ w', q.1 ≠ q'.1) → wrL (wrL ob w) w' = wrL (wrL ob w') w
  | [], w', ob, _ => rfl
  | (x, y) :: w, w', ob, h => by
    simp only [wrL]
    rw [wrL_comm w w' _ fun q hq q' hq' => h q (by simp [hq]) q' hq', wrL_set_comm w' ob fun q' hq' => Ne.symm (h (x, y) (by simp) q' hq')]
theorem putL_comm (tm : List AV) {x y : Option Nat} (v u : AV) (h : ∀ d, x = some d → y ≠ some d) : putL (putL tm x v) y u = putL (putL tm y u) x v := by
  cases x with
  | none => rfl
  | some d =>
    cases y with
    | none => rfl
    | some e =>
      have hne : d ≠ e := fun he => h d rfl (he ▸ rfl)
      simp only [putL]
      rw [List.set_comm _ _ hne]
theorem bubble {cx : Cx} {ops : Array Oper} {f : Nat → List Nat × List Nat} {fin : ASt} {i : Nat} {post : List Nat} : ∀ (pre : List Nat) {st : ASt}, (∀ j ∈ pre, Free ops f j i) → Run cx ops f fin (pre ++ i :: post) st →
    ∃ o v w, ops[i]? = some o ∧ StpE cx ops o st (f i) v w ∧ Run cx ops f fin (pre ++ post) (app o.dst v w st)
  | [], st, _, h => h
  | j :: pre, st, hf, h => by
    obtain ⟨a, va, wa, ha, sa, h⟩ := h
    obtain ⟨b, vb, wb, hb, sb, h⟩ := bubble pre (fun k hk => hf k (by simp [hk])) h
    have hF := hf j (by simp)
    obtain ⟨p1, p2, p3⟩ := Oper.apart_spec (hF.apart a b ha hb)
    have lb : Look ops b st (app a.dst va wa st) := fun t ht => putL_look fun x hx e => p1 x hx (e ▸ ht)
    have ab : Agree (f i).1 st.ob (app a.dst va wa st).ob := fun r hr => wrL_other wa _ fun q hq e => hF.conf.1 q.1 (sa.wr q hq) (e ▸ hr)
    have sb0 : StpE cx ops b st (f i) vb wb := sb.move lb.symm ab.symm
    have la : Look ops a st (app b.dst vb wb st) := fun t ht => putL_look fun x hx e => p3 x hx (e ▸ ht)
    have aa : Agree (f j).1 st.ob (app b.dst vb wb st).ob := fun r hr => wrL_other wb _ fun q hq e => hF.conf.2 r hr (e ▸ sb.wr q hq)
    have sa' : StpE cx ops a (app b.dst vb wb st) (f j) va wa := sa.move la aa
    refine ⟨b, vb, wb, hb, sb0, a, va, wa, ha, sa', ?_⟩
    have he : app a.dst va wa (app b.dst vb wb st) = app b.dst vb wb (app a.dst va wa st) := by
      simp only [app]
      rw [putL_comm st.tm va vb p2, wrL_comm wa wb]
      intro q hq q' hq' e
      exact hF.conf.1 q.1 (sa.wr q hq) (e ▸ sb.sub q' hq')
    rw [he]
    exact h
end Go.AX
end
section
namespace Go.AX
theorem ancs_inv : ∀ (l : List Oper) (done : List Oper) (acc : List (List Nat)), acc.length = done.length →
    (∀ p (hp : p < done.length), (preds done[p]).all (fun j => Nat.blt j p) = true → ∀ k ∈ acc.getD (acc.length - 1 - p) [], k ∈ preds done[p] ∨ ∃ q ∈ preds done[p], k ∈ acc.getD (acc.length - 1 - q) []) →
    (ancs l acc).length = (done ++ l).length ∧ ∀ p (hp : p < (done ++ l).length), (preds (done ++ l)[p]).all (fun j => Nat.blt j p) = true → ∀ k ∈ (ancs l acc).getD ((ancs l acc).length - 1 - p) [], k ∈ preds (done ++ l)[p] ∨ ∃ q ∈ preds (done ++ l)[p], k ∈ (ancs l acc).getD ((ancs l acc).length - 1 - q) []
  | [], done, acc, hlen, h => by simpa [ancs, hlen] using h
  | o :: l, done, acc, hlen, h => by
    simp only [ancs]
    have := ancs_inv l (done ++ [o]) (((preds o).flatMap fun j => j :: acc.getD (acc.length - 1 - j) []) :: acc) (by simp [hlen]) ?_
    · simpa using this
    · intro p hp hb k hk
      simp only [List.length_append, List.length_cons, List.length_nil, Nat.zero_add] at hp
      have old : ∀ q, q < acc.length → (((preds o).flatMap fun j => j :: acc.getD (acc.length - 1 - j) []) :: acc).getD ((((preds o).flatMap fun j => j :: acc.getD (acc.length - 1 - j) []) :: acc).length - 1 - q) [] = acc.getD (acc.length - 1 - q) [] := by
        intro q hq
        have : (((preds o).flatMap fun j => j :: acc.getD (acc.length - 1 - j) []) :: acc).length - 1 - q = (acc.length - 1 - q) + 1 := by simp only [List.length_cons]; omega
        rw [this, List.getD_cons_succ]
      rcases Nat.lt_or_ge p done.length with hlt | hge
      · rw [old p (by omega)] at hk
        have hb' : (preds done[p]).all (fun j => Nat.blt j p) = true := by simpa [List.getElem_append_left hlt] using hb
        rw [List.getElem_append_left hlt]
        rcases h p hlt hb' k hk with h1 | ⟨q, h1, h2⟩
        · exact .inl h1
        · refine .inr ⟨q, h1, ?_⟩
          have := List.all_eq_true.1 hb' q h1
          have hqp : q < p := by simpa using this
          rw [old q (by omega)]
          exact h2
      · have hpe : p = done.length := by omega
        subst hpe
        have hge' : (done ++ [o])[done.length]'(by simp) = o := by simp
        rw [hge'] at hb ⊢
        have : (((preds o).flatMap fun j => j :: acc.getD (acc.length - 1 - j) []) :: acc).length - 1 - done.length = 0 := by simp only [List.length_cons]; omega
        rw [this, List.getD_cons_zero] at hk
        obtain ⟨q, hq, hk⟩ := List.mem_flatMap.1 hk
        rcases List.mem_cons.1 hk with rfl | hk
        · exact .inl hq
        · refine .inr ⟨q, hq, ?_⟩
          have := List.all_eq_true.1 hb q hq
          have hqp : q < done.length := by simpa using this
          rw [old q (by omega)]
          exact hk
theorem ancOf_step {ops : Array Oper} {p : Nat} {o : Oper} (ho : ops[p]? = some o) (hb : (preds o).all (fun j => Nat.blt j p) = true) {k : Nat} (hk : k ∈ ancOf ops p) :
    k ∈ preds o ∨ ∃ q ∈ preds o, k ∈ ancOf ops q := by
  obtain ⟨h1, h2⟩ := ancs_inv ops.toList [] [] rfl (fun p hp => by simp at hp)
  obtain ⟨hp, hpo⟩ := Array.getElem?_eq_some_iff.1 ho
  simp only [List.nil_append, Array.length_toList] at h1 h2
  have := h2 p (by simpa using hp)
  simp only [Array.getElem_toList, hpo, h1] at this
  unfold ancOf at hk ⊢
  exact this hb k hk
theorem conf_spec {ops : Array Oper} {f : Nat → List Nat × List Nat} {i : Nat} {fp wr : List Nat} : ∀ (n j : Nat), confOK.conf ops i fp wr j ((List.range' j n).map f) = true →
    ∀ k, j ≤ k → k < j + n → i ∈ ancOf ops k ∨ ((∀ r ∈ wr, r ∉ (f k).1) ∧ ∀ r ∈ fp, r ∉ (f k).2)
  | 0, j, _, k, h1, h2 => by omega
  | n + 1, j, h, k, h1, h2 => by
    simp only [List.range'_succ, List.map_cons, confOK.conf] at h
    rw [show f j = ((f j).1, (f j).2) from rfl] at h
    simp only [Bool.and_eq_true, Bool.or_eq_true] at h
    rcases Nat.eq_or_lt_of_le h1 with rfl | hlt
    · rcases h.1 with h0 | h0
      · exact .inl (by simpa using h0)
      · refine .inr ⟨fun r hr => ?_, fun r hr => ?_⟩
        · have := List.all_eq_true.1 h0.1 r hr
          simpa using this
        · have := List.all_eq_true.1 h0.2 r hr
          simpa using this
    · exact conf_spec n (j + 1) h.2 k (by omega) (by omega)
theorem confOK_spec {ops : Array Oper} {f : Nat → List Nat × List Nat} : ∀ (n i : Nat), confOK ops i ((List.range' i n).map f) = true →
    ∀ j k, i ≤ j → j < k → k < i + n → j ∈ ancOf ops k ∨ ((∀ r ∈ (f j).2, r ∉ (f k).1) ∧ ∀ r ∈ (f j).1, r ∉ (f k).2)
  | 0, i, _, j, k, h1, h2, h3 => by omega
  | n + 1, i, h, j, k, h1, h2, h3 => by
    simp only [List.range'_succ, List.map_cons] at h
    rw [show f i = ((f i).1, (f i).2) from rfl] at h
    simp only [confOK, Bool.and_eq_true] at h
    rcases Nat.eq_or_lt_of_le h1 with rfl | hlt
    · exact conf_spec n (i + 1) h.1 k (by omega) (by omega)
    · exact confOK_spec n (i + 1) h.2 j k (by omega) h2 (by omega)
theorem opsDK_run {cx : Cx} {ops : Array Oper} : ∀ (os : List Oper) (i : Nat) (evs : List (List Nat × List Nat)) {st : ASt} {K : List (List Nat × List Nat) → ASt → Prop},
    (∀ k (hk : k < os.length), ops[i + k]? = some os[k]) → opsDK cx ops os evs st K →
    ∃ (es : List (List Nat × List Nat)) (fin : ASt), es.length = os.length ∧ K (evs.reverse ++ es) fin ∧ ∀ f : Nat → List Nat × List Nat, (∀ k (hk : k < es.length), f (i + k) = es[k]) → Run cx ops f fin (List.range' i os.length) st
  | [], i, evs, st, K, _, h => ⟨[], st, rfl, by simpa [opsDK] using h, fun f _ => rfl⟩
  | o :: os, i, evs, st, K, hi, h => by
    have h : stepK cx ops o st fun st' => opsDK cx ops os ((opFp cx.np o st.tm, evWr cx.np o st.tm st'.tm) :: evs) st' K := by
      obtain ⟨tm, ob⟩ := st; exact h
    obtain ⟨v, w, h, hs⟩ := stepK_x h
    obtain ⟨es, fin, h1, h2, h3⟩ := opsDK_run os (i + 1) _ (fun k hk => by
      have := hi (k + 1) (by simpa using hk)
      rw [show i + 1 + k = i + (k + 1) by omega, this]; rfl) h
    refine ⟨(opFp cx.np o st.tm, evWr cx.np o st.tm (app o.dst v w st).tm) :: es, fin, by simp [h1], by simpa using h2, fun f hf => ?_⟩
    simp only [List.length_cons, List.range'_succ]
    refine ⟨o, v, w, hi 0 (by simp), ?_, h3 f fun k hk => ?_⟩
    · have := hf 0 (by simp)
      simp only [Nat.add_zero, List.getElem_cons_zero] at this
      rw [this]; exact hs
    · have := hf (k + 1) (by simpa using hk)
      rw [show i + 1 + k = i + (k + 1) by omega, this]; rfl
theorem drawOK_spec {ops : Array Oper} (h : drawOK ops = true) {i : Nat} {o : Oper} (ho : ops[i]? = some o) :
    (preds o).all (fun j => Nat.blt j i) = true ∧ ∀ j, j < i → j ∈ ancOf ops i ∨ ∀ q, ops[j]? = some q → q.apart ops o = true := by
  obtain ⟨hi, _⟩ := Array.getElem?_eq_some_iff.1 ho
  have h1 := List.all_eq_true.1 h i (List.mem_range.2 hi)
  simp only [ho, Bool.and_eq_true] at h1
  refine ⟨h1.1.1, fun j hj => ?_⟩
  have h2 := List.all_eq_true.1 h1.2 j (List.mem_range.2 hj)
  simp only [Bool.or_eq_true] at h2
  rcases h2 with h2 | h2
  · exact .inl (by simpa using h2)
  · refine .inr fun q hq => ?_
    simpa [hq] using h2
theorem anc_listed {ops : Array Oper} (hd : drawOK ops = true) {listed : Nat → Prop} (hdown : ∀ i o, ops[i]? = some o → listed i → ∀ j ∈ preds o, listed j) :
    ∀ (n i : Nat), i < n → i < ops.size → listed i → ∀ k ∈ ancOf ops i, listed k
  | 0, i, h, _, _ => by omega
  | n + 1, i, h, hi, hl => by
    intro k hk
    have ho : ops[i]? = some ops[i] := by simp [hi]
    obtain ⟨hb, _⟩ := drawOK_spec hd ho
    rcases ancOf_step ho hb hk with h1 | ⟨q, h1, h2⟩
    · exact hdown i _ ho hl k h1
    · have := List.all_eq_true.1 hb q h1
      have hq : q < i := by simpa using this
      exact anc_listed hd hdown n q (by omega) (by omega) (hdown i _ ho hl q h1) k h2
theorem ready_mem {ops : Array Oper} {listed : Array Bool} {i : Nat} (h : i ∈ Region.ready .any ops listed) :
    i < ops.size ∧ listed.getD i true = false ∧ ∃ o, ops[i]? = some o ∧ ∀ j ∈ preds o, listed.getD j false = true := by
  unfold Region.ready at h
  rw [List.mem_filter, List.mem_range] at h
  obtain ⟨hi, h⟩ := h
  have ho : ops[i]? = some ops[i] := by simp [hi]
  simp only [Bool.and_eq_true, ho, Option.map_some, Option.getD_some] at h
  refine ⟨hi, by simpa using h.1, _, ho, fun j hj => ?_⟩
  unfold preds at hj
  obtain ⟨e, he, rfl⟩ := List.mem_map.1 hj
  obtain ⟨he1, he2⟩ := List.mem_filter.1 he
  have := Array.all_eq_true'.1 h.2 e (by simpa using he1)
  simpa [he2] using this
theorem mem_ready {ops : Array Oper} {listed : Array Bool} {i : Nat} {o : Oper} (ho : ops[i]? = some o) (hl : listed.getD i true = false) (hp : ∀ j ∈ preds o, listed.getD j false = true) : i ∈ Region.ready .any ops listed := by
  obtain ⟨hi, _⟩ := Array.getElem?_eq_some_iff.1 ho
  unfold Region.ready
  rw [List.mem_filter, List.mem_range]
  refine ⟨hi, ?_⟩
  simp only [Bool.and_eq_true, ho, Option.map_some, Option.getD_some]
  refine ⟨by simp [hl], Array.all_eq_true'.2 fun e he => ?_⟩
  cases hb : Region.binds .any e with
  | false => rfl
  | true =>
    simp only [Bool.not_true, Bool.false_or]
    exact hp e.on (List.mem_map.2 ⟨e, List.mem_filter.2 ⟨by simpa using he, hb⟩, rfl⟩)
section
variable {P : Program} {E : Env} {tr : Trk}
theorem any_sound {cx : Cx} (hT : TabOk P cx.T) (hC : ∀ f args objs res objs', cx.C f args objs res objs' → CallsOK P f args objs res objs') {ops : Array Oper} {f : Nat → List Nat × List Nat} {fin : ASt} {Q : Exit → Act → World → Prop}
    (hd : drawOK ops = true) (hc : ∀ j k, j < k → k < ops.size → j ∈ ancOf ops k ∨ ((∀ r ∈ (f j).2, r ∉ (f k).1) ∧ ∀ r ∈ (f j).1, r ∉ (f k).2))
    (hQ : ∀ a w, RR E tr fin a w → Q .normal a w) : ∀ (fuel : Nat) (L : List Nat) (listed : Array Bool) {st : ASt} {a : Act} {w : World},
    L.length = fuel → listed.size = ops.size → L.Pairwise (· < ·) → (∀ k, k ∈ L ↔ k < ops.size ∧ listed.getD k true = false) → (∀ i o, ops[i]? = some o → listed.getD i false = true → ∀ j ∈ preds o, listed.getD j false = true) →
    Run cx ops f fin L st → RR E tr st a w → wpAny P .any ops Q fuel listed a w
  | 0, L, listed, st, a, w, hL, hsz, hp, hm, hdown, hrun, hR => by
    have : L = [] := List.length_eq_zero_iff.1 hL
    subst this
    refine ⟨?_, hQ _ _ (by rw [← (show st = fin from hrun)]; exact hR)⟩
    cases hr : Region.ready .any ops listed with
    | nil => rfl
    | cons i l =>
      obtain ⟨h1, h2, _⟩ := ready_mem (i := i) (by rw [hr]; simp)
      exact absurd ((hm i).2 ⟨h1, h2⟩) (by simp)
  | fuel + 1, L, listed, st, a, w, hL, hsz, hp, hm, hdown, hrun, hR => by
    have gd : ∀ k, k < ops.size → listed.getD k true = listed.getD k false := fun k hk => by simp [Array.getD, hsz, hk]
    refine ⟨fun hr => ?_, fun i hi => ?_⟩
    · exfalso
      cases L with
      | nil => simp at hL
      | cons i l =>
        obtain ⟨h1, h2⟩ := (hm i).1 (by simp)
        have ho : ops[i]? = some ops[i] := by simp [h1]
        have : i ∈ Region.ready .any ops listed := mem_ready ho h2 fun j hj => by
          obtain ⟨hb, _⟩ := drawOK_spec hd ho
          have := List.all_eq_true.1 hb j hj
          have hji : j < i := by simpa using this
          cases hx : listed.getD j false with
          | true => rfl
          | false =>
            have hjL := (hm j).2 ⟨by omega, by rw [gd j (by omega)]; exact hx⟩
            rcases List.mem_cons.1 hjL with e | e
            · omega
            · have := (List.pairwise_cons.1 hp).1 j e
              omega
        rw [hr] at this
        simp at this
    · obtain ⟨h1, h2, o, ho, h3⟩ := ready_mem hi
      have hiL := (hm i).2 ⟨h1, h2⟩
      obtain ⟨pre, post, rfl⟩ := List.append_of_mem hiL
      obtain ⟨hp1, hp2, hp3⟩ := List.pairwise_append.1 hp
      have hfree : ∀ j ∈ pre, Free ops f j i := by
        intro j hj
        have hji : j < i := hp3 j hj i (by simp)
        have hnl : ¬ listed.getD j false = true := by
          obtain ⟨q1, q2⟩ := (hm j).1 (by simp [hj])
          rw [gd j q1] at q2
          rw [q2]; simp
        have hna : j ∉ ancOf ops i := by
          intro hja
          obtain ⟨hb, _⟩ := drawOK_spec hd ho
          rcases ancOf_step ho hb hja with e | ⟨q, e1, e2⟩
          · exact hnl (h3 j e)
          · have := List.all_eq_true.1 hb q e1
            have hq : q < i := by simpa using this
            exact hnl (anc_listed hd (listed := fun k => listed.getD k false = true) hdown (q + 1) q (by omega) (by omega) (h3 q e1) j e2)
        refine ⟨fun x y hx hy => ?_, ?_⟩
        · rw [ho] at hy
          cases hy
          exact ((drawOK_spec hd ho).2 j hji).resolve_left hna x hx
        · exact (hc j i hji h1).resolve_left hna
      obtain ⟨o', v, wr, ho', hs, hrun'⟩ := bubble pre hfree hrun
      rw [ho] at ho'
      cases ho'
      have hstep : stepK cx ops o st fun st' => Run cx ops f fin (pre ++ post) st' := hs.go st (fun _ _ => rfl) (fun _ _ => rfl) _ hrun'
      have hnext : ∀ st' a' w', Run cx ops f fin (pre ++ post) st' → RR E tr st' a' w' → wpAny P .any ops Q fuel (listed.setIfInBounds i true) a' w' := by
        intro st' a' w' hr' hR'
        have gs : ∀ k b, (listed.setIfInBounds i true).getD k b = if k = i then true else listed.getD k b := by
          intro k b
          by_cases hk : k = i
          · subst hk; simp [Array.getD, hsz, h1]
          · have : ¬ i = k := fun e => hk e.symm
            simp only [hk, if_false, Array.getD, Array.size_setIfInBounds]
            split
            · rename_i hlt
              exact Array.getElem_setIfInBounds_ne hlt this
            · rfl
        refine any_sound hT hC hd hc hQ fuel (pre ++ post) (listed.setIfInBounds i true) (by simp at hL ⊢; omega) (by simpa using hsz) ?_ (fun k => ?_) ?_ hr' hR'
        · exact List.pairwise_append.2 ⟨hp1, (List.pairwise_cons.1 hp2).2, fun x hx y hy => hp3 x hx y (by simp [hy])⟩
        · rw [gs]
          have := hm k
          by_cases hk : k = i
          · subst hk
            simp only [if_true]
            constructor
            · intro hh
              rcases List.mem_append.1 hh with hh | hh
              · exact absurd (hp3 k hh k (by simp)) (by omega)
              · exact absurd ((List.pairwise_cons.1 hp2).1 k hh) (by omega)
            · intro hh; simp at hh
          · simp only [hk, if_false]
            rw [← this]
            simp [hk]
        · intro j q hq hl p hpq
          rw [gs] at hl ⊢
          split
          · rfl
          · by_cases hj : j = i
            · subst hj
              rw [ho] at hq; cases hq
              exact h3 p hpq
            · simp only [hj, if_false] at hl
              exact hdown j q hq hl p hpq
      unfold wpOp
      simp only [ho]
      have := step_sound (Q := Q) hT hC hstep hR (next := wpAny P .any ops Q fuel (listed.setIfInBounds i true)) hnext
      split
      · rename_i hw; rw [if_pos hw] at this; exact .inl this
      · rename_i hw; rw [if_neg hw] at this; exact this
theorem drawOK_sound {cx : Cx} (hT : TabOk P cx.T) (hC : ∀ f args objs res objs', cx.C f args objs res objs' → CallsOK P f args objs res objs') (hm : P.follows .mixedOrders = true) : DrawOK P cx := by
  intro E tr id ops st a w K Q hnp hd h hR hQ
  obtain ⟨es, fin, hlen, ⟨hconf, hK⟩, hrun⟩ := opsDK_run ops.toList 0 [] (fun k hk => by simp at hk; simp [hk]) h
  have hrun := hrun (fun k => es.getD k default) fun k hk => by simp [hk]
  simp only [Array.length_toList] at hlen hrun
  have hes : es = (List.range' 0 ops.size).map fun k => es.getD k default := by
    apply List.ext_getElem
    · simp [hlen]
    · intro k h1 h2; simp [h1]
  rw [List.reverse_nil, List.nil_append, hes] at hconf
  have hspec := confOK_spec ops.size 0 hconf
  refine wp_region_any hm ?_
  obtain ⟨S, φ, hR1, htr⟩ := hR
  obtain ⟨md, kd⟩ := hR1.mem.drew
  have hR' : RR E tr st a w.drew := ⟨S, φ, ⟨hR1.sz, fun i hi => ⟨kd.rep (hR1.tm i hi).2 (hR1.tm i hi).1, (hR1.tm i hi).2⟩, hR1.df, md⟩, htr⟩
  refine any_sound hT hC hd (f := fun k => es.getD k default) (fun j k h1 h2 => hspec j k (by omega) h1 (by omega)) (fun a w hR => hQ fin a w hK hR) ops.size (List.range' 0 ops.size) _ (by simp) (by simp) List.pairwise_lt_range' (fun k => ?_) ?_ hrun hR'
  · simp [Array.getD]
  · intro i o ho hl
    simp [Array.getD] at hl
end
end Go.AX
end
section
namespace Go.AX
def zeroB : D → Value → Bool
  | .val (.int k n), .int k' n' => decide (k = k') && decide (n = n')
  | .val (.bool b), .bool b' => b == b'
  | .val (.string s), .string s' => Nat.beq s.data.toList.length 0 && Nat.beq s'.data.toList.length 0
  | .val (.pointer none), .pointer none => true
  | .val .nilFunc, .nilFunc => true
  | .val .nilIface, .nilIface => true
  | .val (.map none), .map none => true
  | .nil _, .slice none 0 0 => true
  | _, _ => false
theorem zeroB_ok {d : D} {v : Value} (h : zeroB d v = true) : zeroOk d v := by
  unfold zeroB at h
  split at h
  · simp only [Bool.and_eq_true, decide_eq_true_eq] at h
    obtain ⟨rfl, rfl⟩ := h
    exact ⟨rfl, rfl⟩
  · have h := eq_of_beq h
    subst h
    exact ⟨rfl, rfl⟩
  · rename_i s s'
    simp only [Bool.and_eq_true, beq_iff, List.length_eq_zero_iff] at h
    have e : s = s' := by
      cases s; cases s'
      congr
      apply Array.toList_inj.1
      rw [h.1, h.2]
    subst e
    exact ⟨rfl, rfl⟩
  all_goals first | exact ⟨rfl, rfl⟩ | rfl | simp at h
def zerosB : List D → List Value → Bool
  | [], [] => true
  | d :: ds, v :: vs => zeroB d v && zerosB ds vs
  | _, _ => false
theorem zerosB_ok : ∀ {ds : List D} {vs : List Value}, zerosB ds vs = true → ds.length = vs.length ∧ ∀ j (hj : j < ds.length) v, vs[j]? = some v → zeroOk ds[j] v
  | [], [], _ => ⟨rfl, fun j hj => by simp at hj⟩
  | d :: ds, v :: vs, h => by
    simp only [zerosB, Bool.and_eq_true] at h
    obtain ⟨h1, h2⟩ := zerosB_ok h.2
    refine ⟨by simp [h1], fun j hj u hu => ?_⟩
    cases j with
    | zero =>
      simp only [List.getElem?_cons_zero, Option.some.injEq] at hu
      subst hu
      exact zeroB_ok h.1
    | succ j => exact h2 j (by simpa using hj) u (by simpa using hu)
  | [], _ :: _, h => by simp [zerosB] at h
  | _ :: _, [], h => by simp [zerosB] at h
def fieldsB (P : Program) : List Field → List (Nat × Nat × Nat) → Bool
  | [], [] => true
  | f :: fs, (o, s, t) :: l => Nat.beq f.offset o && Nat.beq f.type t && (match P.info? f.type with
    | some i => Nat.beq i.size s
    | none => false) && !(f.name == "_") && fieldsB P fs l
  | _, _ => false
theorem fieldsB_ok {P : Program} : ∀ {F : List Field} {l : List (Nat × Nat × Nat)}, fieldsB P F l = true →
    F.map (fun f => (f.offset, (P.info? f.type).map (·.size), f.type)) = l.map (fun x => (x.1, some x.2.1, x.2.2)) ∧ ∀ f ∈ F, f.name ≠ "_"
  | [], [], _ => ⟨rfl, fun f hf => by simp at hf⟩
  | f :: fs, (o, s, t) :: l, h => by
    simp only [fieldsB, Bool.and_eq_true, beq_iff] at h
    obtain ⟨⟨⟨⟨h1, h2⟩, h3⟩, h4⟩, h5⟩ := h
    obtain ⟨g1, g2⟩ := fieldsB_ok h5
    refine ⟨?_, fun g hg => ?_⟩
    · simp only [List.map_cons, g1, List.cons.injEq, Prod.mk.injEq, and_true]
      refine ⟨h1, ?_, h2⟩
      split at h3
      · rename_i i hi
        rw [hi]
        simpa using h3
      · simp at h3
    · rcases List.mem_cons.1 hg with rfl | hg
      · simpa using h4
      · exact g2 g hg
  | [], _ :: _, h => by simp [fieldsB] at h
  | _ :: _, [], h => by simp [fieldsB] at h
def kindB (P : Program) (t : Nat) (k : TK) : Bool := match k, P.underlying t with
  | .bool, some .bool => true
  | .int k, some (.int k') => decide (k' = k)
  | .str, some .string => true
  | .ptr, some (.pointer _) => true
  | .fn, some (.func _ _ _) => true
  | .slice e, some (.slice e') => Nat.beq e' e
  | .arr n e, some (.array n' e') => Nat.beq n' n && Nat.beq e' e
  | .map k e, some (.map k' e') => Nat.beq k' k && Nat.beq e' e
  | .struct fs, some (.struct F) => !P.stoodInHeld t && !P.eqGuardType P.depth t && fieldsB P F.toList fs
  | .other, _ => true
  | _, _ => false
theorem kindB_ok {P : Program} {t : Nat} {k : TK} (h : kindB P t k = true) : KindOk P t k := by
  unfold kindB at h
  split at h <;> simp only [KindOk]
  · assumption
  · rename_i hu; rw [hu, of_decide_eq_true h]
  · assumption
  · exact ⟨_, by assumption⟩
  · exact ⟨_, _, _, by assumption⟩
  · rename_i hu; rw [hu, Nat.eq_of_beq_eq_true h]
  · rename_i hu
    simp only [Bool.and_eq_true, beq_iff] at h
    rw [hu, h.1, h.2]
  · rename_i hu
    simp only [Bool.and_eq_true, beq_iff] at h
    rw [hu, h.1, h.2]
  · rename_i fs F hu
    simp only [Bool.and_eq_true, Bool.not_eq_true'] at h
    exact ⟨h.1.1, h.1.2, F, hu, fieldsB_ok h.2⟩
  · simp at h
def aggB (k : TK) (z : Value) : Bool := match z, k.cls with
  | .agg _, some false => false
  | .agg _, _ => true
  | _, some true => false
  | _, _ => true
def tiB (P : Program) (t : Nat) (ti : TI) : Bool := match P.info? t with
  | some i => (match i.zero with
    | some z => Nat.beq i.size ti.size && Nat.beq i.bytes ti.bytes && Nat.beq ti.zero.length ti.size && zerosB ti.zero z.cells.toList && kindB P t ti.kind && aggB ti.kind z
    | none => false)
  | none => false
theorem tiB_ok {P : Program} {t : Nat} {ti : TI} (h : tiB P t ti = true) : TiOk P t ti := by
  unfold tiB at h
  split at h
  · rename_i i hi
    split at h
    · rename_i z hz
      simp only [Bool.and_eq_true, beq_iff] at h
      obtain ⟨⟨⟨⟨⟨h1, h2⟩, h3⟩, h4⟩, h5⟩, h6⟩ := h
      obtain ⟨g1, g2⟩ := zerosB_ok h4
      exact ⟨⟨i, z, hi, h1, h2, hz, by rw [← Array.length_toList, ← g1, h3], h3, fun j hj v hv => g2 j hj v (by simpa using hv)⟩, kindB_ok h5, fun i' z' hi' hz' => by
        rw [hi] at hi'
        obtain rfl := Option.some.inj hi'
        rw [hz] at hz'
        obtain rfl := Option.some.inj hz'
        refine ⟨fun hc => ?_, fun hc cs e => ?_⟩
        · cases z <;> first | exact ⟨_, rfl⟩ | (simp [aggB, hc] at h6)
        · subst e; simp [aggB, hc] at h6⟩
    · simp at h
  · simp at h
def tabB (P : Program) : TT → Bool
  | .tip => true
  | .node k v l r => (v.kind.cls.isNone || tiB P k v) && tabB P l && tabB P r
theorem tabB_ok {P : Program} : ∀ {T : TT}, tabB P T = true → TabOk P T
  | .tip, _ => fun t => .inl rfl
  | .node k v l r, h => fun t => by
    simp only [tabB, Bool.and_eq_true, Bool.or_eq_true] at h
    simp only [TT.get]
    cases hb : Nat.beq t k with
    | true =>
      have := Nat.eq_of_beq_eq_true hb
      subst this
      simp only
      rcases h.1.1 with h | h
      · exact .inl (by simpa using h)
      · exact .inr (tiB_ok h)
    | false =>
      simp only
      cases Nat.blt t k with
      | true => exact tabB_ok h.1.2 t
      | false => exact tabB_ok h.2 t
end Go.AX
end
section
namespace Go.AX
theorem fn_ok {P : Program} {T : TT} (hT : TabOk P T) (hm : P.follows .mixedOrders = true) (keep : FuncId → List Bool) {f : FuncId} {fn : Func} {args : List AV} {objs : List OB} {res : AV} {objs' : List OB}
    (hf : P.funcs[f]? = some fn) (hn : (fn.name == "runtime.NumGoroutine") = false) (h : funK ⟨T, objs.length, CallsOK P, keep⟩ fn args objs fun r o => r = res ∧ o = objs') : CallsOK P f args objs res objs' :=
  funK_sound (cx := ⟨T, objs.length, CallsOK P, keep⟩) hT (fun _ _ _ _ _ h => h) (drawOK_sound hT (fun _ _ _ _ _ h => h) hm) hf (by simpa using hn) h
def I64 (x : Int) : Prop := -9223372036854775808 ≤ x ∧ x ≤ 9223372036854775807
theorem i64_id {a b : Int} (h1 : a = b) (h2 : I64 b) : IntKind.i64.wrap a = b := by
  subst h1
  exact IntWalk.i64_in a h2
theorem I64.of {x : Int} (h : -9223372036854775808 ≤ x ∧ x ≤ 9223372036854775807) : I64 x := h
theorem bnd {n b : Nat} (hb : Nat.ble b 65536 = true) (hn : n ≤ 1000000000) : n * b ≤ 2 ^ 47 ∧ n ≤ 2 ^ 47 := by
  have hb := Nat.le_of_ble_eq_true hb
  have := Nat.mul_le_mul hn hb
  omega
theorem dOK {ops : Array Oper} {K : Prop} (h : drawOK ops = true) (k : K) : drawOK ops = true ∧ K := ⟨h, k⟩
theorem cOK {ops : Array Oper} {i : Nat} {e : List (List Nat × List Nat)} {K : Prop} (h : confOK ops i e = true) (k : K) : confOK ops i e = true ∧ K := ⟨h, k⟩
theorem i64K {a : Int} {K : Int → Prop} (h : I64 a) (k : K a) : ∃ r, IntKind.i64.wrap a = r ∧ K r := ⟨a, i64_id rfl h, k⟩
end Go.AX
end
section
namespace Go.AX
open Go.RowKit
def Old (w : World) : Sc := fun b o => ∃ v, cellAt w b o = some v
theorem walk_of {P : Program} {f : FuncId} {args : List AV} {res : AV} (h : CallsOK P f args [] res []) (w : World) (vals : Array Value) (hs : vals.size = args.length)
    (hr : ∀ i (hi : i < args.length), RepA (Old w) w (fun _ => none) (ofL []) args[i] (vals.getD i undef) ∧ Closed (ofL []) args[i]) :
    Calls P f vals w fun e w' => (∃ v S φ, e = .returned v ∧ RepA S w' φ (ofL []) res v) ∧ Below w.heap.size w w' := by
  have hn : ∀ r, ofL [] r = none := fun r => by simp [ofL]
  refine (h.2 w (Old w) (fun _ => none) vals hs hr (fun _ _ => rfl) ⟨fun r o ho => by rw [hn] at ho; simp at ho, fun r _ _ _ _ hr => absurd (hn r) hr, fun r o ho => by rw [hn] at ho; simp at ho, fun _ _ h => h, fun _ _ _ => rfl, fun b o hS => ?_, fun _ _ h _ _ => h, fun _ _ _ => rfl, Nat.le_refl _, fun r _ _ hr => absurd (hn r) hr, ⟨rfl, rfl, rfl⟩⟩).mono fun e w' he => ?_
  · obtain ⟨v, hv⟩ := hS
    refine Nat.lt_of_not_le fun hge => ?_
    simp [cellAt, World.cell?, hge] at hv
  · obtain ⟨v, rfl, S', φ', m, _, hv, _⟩ := he
    refine ⟨⟨v, S', φ', rfl, hv⟩, m.os.1, m.os.2.2, m.os.2.1, m.sz, fun k hk => m.fr k hk ?_⟩
    rintro ⟨r, c, hr, _⟩
    exact absurd hr (by simp)
theorem walk_true {P : Program} {f : FuncId} {args : List AV} (h : CallsOK P f args [] (.b true) []) (w : World) (vals : Array Value) (hs : vals.size = args.length)
    (hr : ∀ i (hi : i < args.length), RepA (Old w) w (fun _ => none) (ofL []) args[i] (vals.getD i undef) ∧ Closed (ofL []) args[i]) :
    Calls P f vals w fun e w' => e = .returned (.bool true) ∧ Below w.heap.size w w' :=
  (walk_of h w vals hs hr).mono fun e w' ⟨⟨v, S, φ, he, hv⟩, hb⟩ => ⟨by rw [he, hv.bool], hb⟩
theorem I64.of_wf {a : Int} (h : (Lit.int .i64 a).wf = true) : I64 a := by
  have h : IntKind.i64.min ≤ a ∧ a ≤ IntKind.i64.max := by simpa [Lit.wf] using h
  simpa [IntKind.min, IntKind.max, IntKind.signed, IntKind.bits, I64] using h
end Go.AX
end
section
namespace Go.AX
open Go.RowKit Go.Deep Go.ChangeShapes Go.WideShapes
section
variable {H : Type} {enc : TypeId × Value → H} {P : Program} {w : World}
def RepI (w : World) (ds : List D) (cs : List Value) : Prop :=
  ds.length = cs.length ∧ (∀ d ∈ ds, d.isAgg = false) ∧ ∀ j (hj : j < ds.length) v, cs[j]? = some v → RepD (Old w) w ds[j] v
def Wt (P : Program) (t : Nat) (d : DataW H) : Prop := (d.weights P t).all (· ≤ reachBytes) = true
theorem weightsAll_mem {e : Nat} : ∀ {l : List (DataW H)} {d : DataW H}, d ∈ l → ∀ n ∈ d.weights P e, n ∈ DataW.weightsAll P e l
  | x :: l, d, hd, n, hn => by
    simp only [DataW.weightsAll, List.mem_append]
    rcases List.mem_cons.1 hd with rfl | hd
    · exact .inl hn
    · exact .inr (weightsAll_mem hd n hn)
theorem Wt.slice {t e : Nat} {el sp : List (DataW H)} (ht : P.underlying t = some (.slice e)) (h : Wt P t (.slice el sp)) : (el.length + sp.length) * P.bytesOf e ≤ reachBytes ∧ ∀ d ∈ el, Wt P e d := by
  have h := List.all_eq_true.1 h
  simp only [DataW.weights, ht, List.mem_cons, List.mem_append] at h
  refine ⟨by simpa using h _ (.inl rfl), fun d hd => List.all_eq_true.2 fun n hn => h n (.inr (.inl (weightsAll_mem hd n hn)))⟩
theorem Wt.string {t : Nat} {b : List UInt8} (h : Wt (H := H) P t (.lit (.string b))) : b.length ≤ reachBytes := by
  have h := List.all_eq_true.1 h
  simp only [DataW.weights] at h
  simpa using h _ (List.mem_singleton.2 rfl)
theorem Wt.agg {t : Nat} {F : Array Field} {ds : List (DataW H)} (ht : P.underlying t = some (.struct F)) (h : Wt P t (.agg ds)) {i : Nat} {f : Field} {d : DataW H} (hf : F[i]? = some f) (hd : ds[i]? = some d) : Wt P f.type d := by
  have h := List.all_eq_true.1 h
  simp only [DataW.weights, ht] at h
  exact List.all_eq_true.2 fun n hn => h n (DataW.weights_mem_each (ts := F.toList.map (·.type)) (j := i) (by simp [hf]) hd n hn)
def Reads (enc : TypeId × Value → H) (P : Program) (w : World) (t : Nat) {α : Type} (cells : α → List D) (ok : α → Prop) : Prop :=
  ∀ fuel cs x, DataW.trod enc P w 0 (fun _ => true) true fuel t cs = some x → Wt P t x.1 → ∃ a, ok a ∧ RepI w (cells a) cs
theorem RepI.one {d : D} {v : Value} (hd : d.isAgg = false) (h : RepD (Old w) w d v) : RepI w [d] [v] :=
  ⟨rfl, fun x hx => by simp only [List.mem_singleton] at hx; rw [hx]; exact hd, fun j hj u hu => by
    have : j = 0 := by simpa using hj
    subst this
    simp only [List.getElem?_cons_zero, Option.some.injEq] at hu
    subst hu
    exact h⟩
theorem RepI.append {ds es : List D} {cs ks : List Value} (h : RepI w ds cs) (k : RepI w es ks) : RepI w (ds ++ es) (cs ++ ks) := by
  obtain ⟨h1, h2, h3⟩ := h
  obtain ⟨k1, k2, k3⟩ := k
  refine ⟨by simp [h1, k1], fun d hd => ?_, fun j hj v hv => ?_⟩
  · rcases List.mem_append.1 hd with hd | hd
    · exact h2 d hd
    · exact k2 d hd
  · rw [List.getElem_append]
    split
    · rename_i hlt
      rw [List.getElem?_append_left (by omega)] at hv
      exact h3 j hlt v hv
    · rename_i hge
      rw [List.getElem?_append_right (by omega), ← h1] at hv
      exact k3 (j - ds.length) (by simp at hj; omega) v hv
theorem Reads.map {t : Nat} {α β : Type} {cells : α → List D} {ok : α → Prop} (h : Reads enc P w t cells ok) {cells' : β → List D} {ok' : β → Prop} (g : α → β) (hc : ∀ a, cells' (g a) = cells a) (hk : ∀ a, ok a → ok' (g a)) : Reads enc P w t cells' ok' := by
  intro fuel cs x hx hw
  obtain ⟨a, h1, h2⟩ := h fuel cs x hx hw
  exact ⟨g a, hk a h1, by rw [hc]; exact h2⟩
theorem reads_int {t : Nat} {k : IntKind} (ht : P.underlying t = some (.int k)) : Reads enc P w t (fun n : Int => [.val (.int k n)]) (fun n => (Lit.int k n).wf = true) := by
  intro fuel cs x h _
  obtain ⟨n, rfl, _, hw⟩ := DataW.trod_int ht h
  exact ⟨n, hw, RepI.one rfl (.val _ rfl)⟩
theorem reads_bool {t : Nat} (ht : P.underlying t = some .bool) : Reads enc P w t (fun b : Bool => [.val (.bool b)]) (fun _ => True) := by
  intro fuel cs x h _
  obtain ⟨b, rfl, _⟩ := DataW.trod_bool ht h
  exact ⟨b, trivial, RepI.one rfl (.val _ rfl)⟩
theorem reads_string {t : Nat} (ht : P.underlying t = some .string) : Reads enc P w t (fun s : ByteArray => [.val (.string s)]) (fun s => s.size ≤ maxLen ∧ s.size ≤ reachBytes) := by
  intro fuel cs x h hw
  obtain ⟨s, rfl, rfl, hs⟩ := DataW.trod_string ht h
  have := Wt.string hw
  rw [Array.length_toList] at this
  exact ⟨s, ⟨hs, this⟩, RepI.one rfl (.val _ rfl)⟩
theorem reads_slice {t e sz by' : Nat} {α : Type} {el : α → D} {ok : α → Prop} (ht : P.underlying t = some (.slice e)) (hsz : P.cellsOf e = sz) (hpos : 0 < sz) (hby : P.bytesOf e = by') (h : Reads enc P w e (fun a => (el a).cells) ok) :
    Reads enc P w t (fun l : List α => [.lst sz (l.map el)]) (fun l => l.length ≤ maxLen ∧ l.length * by' ≤ reachBytes ∧ ∀ a ∈ l, ok a) := by
  intro fuel cs x hx hw
  rcases open_slice ht hx with ⟨rfl, _⟩ | ⟨a, len, cap, m, n, D, Pl, rfl, _, hlc, hm, hmm, rfl, hel⟩
  · exact ⟨[], ⟨by simp, by simp, by simp⟩, RepI.one rfl (.lst0 _ _ _)⟩
  · obtain ⟨hw1, hw2⟩ := Wt.slice ht hw
    have hw1 : len * by' ≤ reachBytes := by
      refine Nat.le_trans ?_ hw1
      rw [hby]
      exact Nat.mul_le_mul_right _ (by simp)
    have hmm : m = cap := hmm.trans (if_pos rfl)
    subst hmm
    rw [hsz] at hel
    have one : ∀ i, i < len → ∃ q : α × List Value, ok q.1 ∧ RepI w (el q.1).cells q.2 ∧ w.cells? 0 (a.add (i * sz)) sz = some q.2 := by
      intro i hi
      obtain ⟨cs', h1, h2⟩ := hel i (by omega)
      obtain ⟨b, h3, h4⟩ := h n cs' _ h2 (hw2 _ (List.mem_map.2 ⟨i, List.mem_range.2 hi, rfl⟩))
      exact ⟨(b, cs'), h3, h4, h1⟩
    by_cases h0 : len = 0
    · subst h0
      exact ⟨[], ⟨by simp, by simp, by simp⟩, RepI.one rfl (.lst0 _ _ _)⟩
    · obtain ⟨q0, _⟩ := one 0 (by omega)
      haveI : Inhabited (α × List Value) := ⟨q0⟩
      obtain ⟨f, hf⟩ := choose_lt one
      have hspot : a.spot = none := by
        obtain ⟨_, _, h3⟩ := hf 0 (by omega)
        obtain ⟨_, hl, hc⟩ := World.cells?_some h3
        have := hc 0 hpos
        rw [Nat.zero_mul] at this
        have e : (a.add 0).add 0 = a := by simp [Addr.add]
        rw [e] at this
        have hlt : 0 < (f 0).2.length := by omega
        rw [List.getElem?_eq_getElem hlt] at this
        unfold World.cell? at this
        split at this
        · cases hs : a.spot with
          | none => rfl
          | some s => simp [hs] at this
        · simp at this
      obtain ⟨b, o, sp⟩ := a
      simp only at hspot
      subst hspot
      have hadd : ∀ i j, ((⟨b, o, none⟩ : Addr).add i).add j = ⟨b, o + i + j, none⟩ := by
        intro i j
        rw [Addr.add_none, Addr.add_none]
      have hcell : ∀ i j, i < len → j < sz → ∃ v, (f i).2[j]? = some v ∧ cellAt w b (o + i * sz + j) = some v := by
        intro i j hi hj
        obtain ⟨_, _, h3⟩ := hf i hi
        obtain ⟨_, hl, hc⟩ := World.cells?_some h3
        have := hc j hj
        rw [hadd] at this
        have hlt : j < (f i).2.length := by omega
        exact ⟨(f i).2[j], List.getElem?_eq_getElem hlt, by rw [List.getElem?_eq_getElem hlt] at this; exact this⟩
      have hlenq : ∀ i, i < len → (el (f i).1).cells.length = sz := by
        intro i hi
        obtain ⟨_, h2, h3⟩ := hf i hi
        obtain ⟨_, hl, _⟩ := World.cells?_some h3
        rw [h2.1, hl]
      refine ⟨(List.range len).map fun i => (f i).1, ⟨by simp; omega, by simpa using hw1, fun a ha => ?_⟩, RepI.one rfl ?_⟩
      · obtain ⟨i, hi, rfl⟩ := List.mem_map.1 ha
        exact (hf i (List.mem_range.1 hi)).1
      · have hL : (((List.range len).map fun i => (f i).1).map el).length = len := by simp
        have := RepD.lst (S := Old w) (w := w) sz (((List.range len).map fun i => (f i).1).map el) b o m (fun i j => ((f i).2[j]?).getD undef) (by rw [hL]; exact Nat.le_trans hlc hm) (by rw [hL]; exact hlc) (fun i hi => ?_) (fun i j hi hj => ?_) (fun i hi j hj => ?_) (fun i hi j hj => ?_)
        · rw [hL] at this
          exact this
        · rw [hL] at hi
          simpa using hlenq i hi
        · rw [hL] at hi
          obtain ⟨v, h1, h2⟩ := hcell i j hi hj
          exact ⟨⟨v, h2⟩, by rw [h2, h1]; rfl⟩
        · rw [hL] at hi
          obtain ⟨_, h2, _⟩ := hf i hi
          exact h2.2.1 _ (by simp)
        · rw [hL] at hi
          obtain ⟨_, h2, _⟩ := hf i hi
          simp only [List.getElem_map, List.getElem_range] at hj ⊢
          have hj' : j < sz := by rw [hlenq i hi] at hj; exact hj
          obtain ⟨v, h1, _⟩ := hcell i j hi hj'
          rw [h1]
          exact h2.2.2 j hj v h1
def Chop (enc : TypeId × Value → H) (P : Program) (w : World) : List (Nat × Nat) → List Value → Prop
  | [], cs => cs = []
  | (t, sz) :: fs, cs => sz ≤ cs.length ∧ (∃ fuel x, DataW.trod enc P w 0 (fun _ => true) true fuel t (cs.take sz) = some x ∧ Wt P t x.1) ∧ Chop enc P w fs (cs.drop sz)
def ReadsF (enc : TypeId × Value → H) (P : Program) (w : World) (fs : List (Nat × Nat)) {α : Type} (cells : α → List D) (ok : α → Prop) : Prop :=
  ∀ cs, Chop enc P w fs cs → ∃ a, ok a ∧ RepI w (cells a) cs
theorem readsF_nil : ReadsF enc P w [] (fun _ : Unit => []) (fun _ => True) := by
  intro cs h
  cases h
  exact ⟨(), trivial, rfl, fun d hd => by simp at hd, fun j hj => by simp at hj⟩
theorem readsF_cons {t sz : Nat} {fs : List (Nat × Nat)} {α β : Type} {ca : α → List D} {oa : α → Prop} {cb : β → List D} {ob : β → Prop} (ha : Reads enc P w t ca oa) (hb : ReadsF enc P w fs cb ob) :
    ReadsF enc P w ((t, sz) :: fs) (fun x : α × β => ca x.1 ++ cb x.2) (fun x => oa x.1 ∧ ob x.2) := by
  rintro cs ⟨_, ⟨fuel, x, hx, hw⟩, hc⟩
  obtain ⟨a, h1, h2⟩ := ha fuel _ _ hx hw
  obtain ⟨b, h3, h4⟩ := hb _ hc
  exact ⟨(a, b), ⟨h1, h3⟩, by have := h2.append h4; rwa [List.take_append_drop] at this⟩
def contigB (P : Program) : Nat → List Field → List (Nat × Nat) → Nat → Bool
  | o, [], [], n => Nat.beq o n
  | o, f :: F, (t, sz) :: fs, n => Nat.beq f.offset o && Nat.beq f.type t && Nat.beq (P.cellsOf f.type) sz && Nat.ble (o + sz) n && contigB P (o + sz) F fs n
  | _, _, _, _ => false
theorem chop_of {n : Nat} {cs : List Value} (hl : cs.length = n) : ∀ (F : List Field) (fs : List (Nat × Nat)) (o : Nat), contigB P o F fs n = true →
    (∀ f ∈ F, ∃ fuel x, DataW.trod enc P w 0 (fun _ => true) true fuel f.type ((cs.drop f.offset).take (P.cellsOf f.type)) = some x ∧ Wt P f.type x.1) → Chop enc P w fs (cs.drop o)
  | [], [], o, h, _ => by
    have := Nat.eq_of_beq_eq_true h
    simp only [Chop]
    exact List.drop_eq_nil_of_le (by omega)
  | f :: F, (t, sz) :: fs, o, h, hf => by
    simp only [contigB, Bool.and_eq_true, beq_iff] at h
    obtain ⟨⟨⟨⟨h1, h2⟩, h3⟩, h4⟩, h5⟩ := h
    have h4 := Nat.le_of_ble_eq_true h4
    obtain ⟨fuel, x, hx, hw⟩ := hf f (by simp)
    rw [h1, h3, h2] at hx
    rw [h2] at hw
    refine ⟨by simp; omega, ⟨fuel, x, hx, hw⟩, ?_⟩
    rw [List.drop_drop]
    exact chop_of hl F fs (o + sz) h5 fun g hg => hf g (by simp [hg])
  | [], _ :: _, _, h, _ => by simp [contigB] at h
  | _ :: _, [], _, h, _ => by simp [contigB] at h
theorem reads_struct {t : Nat} {F : Array Field} {fs : List (Nat × Nat)} {α : Type} {cells : α → List D} {ok : α → Prop} (ht : P.underlying t = some (.struct F)) (hc : contigB P 0 F.toList fs (P.cellsOf t) = true) (h : ReadsF enc P w fs cells ok) :
    Reads enc P w t cells ok := by
  intro fuel cs x hx hw
  obtain ⟨xs, n, _, rfl, hl, hlen, hf⟩ := DataW.trod_struct ht hx
  refine h cs ?_
  refine (chop_of (enc := enc) (w := w) hl F.toList fs 0 hc fun f hfm => ?_ : Chop enc P w fs (cs.drop 0))
  · obtain ⟨i, hi, rfl⟩ := List.getElem_of_mem hfm
    simp only [Array.length_toList] at hi
    have := hf i F[i] (by simp [hi])
    rw [List.getElem?_eq_getElem (by omega)] at this
    exact ⟨n, _, by simpa using this, by simpa using Wt.agg ht hw (i := i) (f := F[i]) (by simp [hi]) (d := xs[i].1) (by rw [List.getElem?_map, List.getElem?_eq_getElem (by omega)]; rfl)⟩
theorem RepI.val {d : D} {v : Value} (h : RepI w [d] [v]) : RepD (Old w) w d v := h.2.2 0 (by simp) v (by simp)
theorem RepI.agg {ds : List D} {cs : Array Value} (h : RepI w ds cs.toList) : RepD (Old w) w (.agg ds) (.agg cs) := by
  obtain ⟨h1, h2, h3⟩ := h
  refine .agg ds cs (fun i => cs.getD i undef) (by simpa using h1.symm) (fun i hi => ?_) (fun i hi => h2 _ (by simp)) fun i hi => h3 i hi _ ?_
  · have : i < cs.size := by have := h1; simp at this; omega
    simp [this]
  · have : i < cs.size := by have := h1; simp at this; omega
    simp [this]
theorem open_sliceA {t : Nat} {α : Type} {cells : α → D} {ok : α → Prop} (h : Reads enc P w t (fun a => [cells a]) ok) {a : Option Addr} {len cap : Nat} {d : DataW H} {p : List MemPlace}
    (hv : DataW.Trod enc P w 0 (fun _ => true) true t (.slice a len cap) d p) (hw : Wt P t d) : ∃ x, ok x ∧ RepD (Old w) w (cells x) (.slice a len cap) := by
  obtain ⟨fuel, hf⟩ := hv
  obtain ⟨x, h1, h2⟩ := h fuel _ _ hf hw
  exact ⟨x, h1, RepI.val (by simpa [Value.cells] using h2)⟩
theorem open_aggA {t : Nat} {α : Type} {cells : α → List D} {ok : α → Prop} (h : Reads enc P w t cells ok) {cs : Array Value} {d : DataW H} {p : List MemPlace}
    (hv : DataW.Trod enc P w 0 (fun _ => true) true t (.agg cs) d p) (hw : Wt P t d) : ∃ x, ok x ∧ RepD (Old w) w (.agg (cells x)) (.agg cs) := by
  obtain ⟨fuel, hf⟩ := hv
  obtain ⟨x, h1, h2⟩ := h fuel _ _ hf hw
  exact ⟨x, h1, RepI.agg (by simpa [Value.cells] using h2)⟩
end
end Go.AX
end
section
namespace Go.AX
def joinP {τ ρ : Type} (m : (τ → Option ρ) → Option ρ) (k : τ → Option ρ) : Option ρ := m k
def geti {α : Type} (l : List α) (i : Int) : Option α := if 0 ≤ i ∧ i < l.length then l[i.toNat]? else none
def seti {α : Type} (l : List α) (i : Int) (x : α) : Option (List α) := if 0 ≤ i ∧ i < l.length then some (l.set i.toNat x) else none
def apnd {α : Type} (b : Nat) (l m : List α) : Option (List α) := if (l.length + m.length) * b ≤ 2 ^ 47 ∧ l.length + m.length ≤ 2 ^ 47 then some (l ++ m) else none
def part {α : Type} (l : List α) (a b : Int) : Option (List α) := if 0 ≤ a ∧ a ≤ b ∧ b ≤ l.length then some ((l.drop a.toNat).take (b.toNat - a.toNat)) else none
def spart (s : ByteArray) (a b : Int) : Option ByteArray := if 0 ≤ a ∧ a ≤ b ∧ b ≤ s.size then some (s.extract a.toNat b.toNat) else none
def chk (p : Prop) [Decidable p] : Option Unit := if p then some () else none
abbrev i64w (x : Int) : Int := IntKind.i64.wrap x
def forR {α σ ρ : Type} (done : σ → Option ρ) (body : (σ → Option ρ) → α → Nat → σ → Option ρ) : List α → Nat → σ → Option ρ
  | [], _, s => done s
  | x :: t, i, s => body (forR done body t (i + 1)) x i s
def whileR {σ ρ : Type} (body : (σ → Option ρ) → σ → Option ρ) : Nat → σ → Option ρ
  | 0, _ => none
  | n + 1, s => body (whileR body n) s
def fuel : Nat := 2 ^ 64
abbrev D.u8 (x : UInt8) : D := .val (.int .u8 (x.toNat : Int))
abbrev D.u16 (x : UInt16) : D := .val (.int .u16 (x.toNat : Int))
abbrev D.u32 (x : UInt32) : D := .val (.int .u32 (x.toNat : Int))
abbrev D.u64 (x : UInt64) : D := .val (.int .u64 (x.toNat : Int))
abbrev D.l {α : Type} (sz : Nat) (f : α → D) (l : List α) : D := .lst sz (l.map f)
theorem bind_inv {α ρ : Type} {x : Option α} {f : α → Option ρ} {r : ρ} (h : x.bind f = some r) : ∃ a, x = some a ∧ f a = some r := by
  cases x with
  | none => cases h
  | some a => exact ⟨a, rfl, h⟩
theorem sel_if {b : Bool} {ρ : Type} {X Y : Option ρ} {r : ρ} {A B : Prop} (h1 : X = some r → A) (h2 : Y = some r → B) : (if b = true then X else Y) = some r → selK b A B := by
  intro h
  cases b
  · exact h2 h
  · exact h1 h
theorem sel_t {b : Bool} {A B : Prop} (hb : b = true) (h : A) : selK b A B := by subst hb; exact h
theorem sel_f {b : Bool} {A B : Prop} (hb : b = false) (h : B) : selK b A B := by subst hb; exact h
theorem geti_b {α β : Type} {f : α → β} {l : List α} {i : Int} {v : α} (h : geti l i = some v) : 0 ≤ i ∧ i < ((l.map f).length : Int) := by
  unfold geti at h
  split at h
  · rename_i hb; simpa using hb
  · cases h
theorem geti_b' {α β : Type} {f : α → β} {l : List α} {i : Int} {v : α} (h : geti l i = some v) : 0 ≤ i ∧ i < (((l.map f).length : Nat) : Int) := geti_b h
theorem geti_d {α : Type} {f : α → D} {l : List α} {i : Int} {v : α} (h : geti l i = some v) : (l.map f).getD i.toNat default = f v := by
  unfold geti at h
  split at h
  · rename_i hb; simp [h]
  · cases h
theorem geti_a {α : Type} {f : α → AV} {l : List α} {i : Int} {v : α} (h : geti l i = some v) : (l.map f)[i.toNat * 1]? = some (f v) := by
  unfold geti at h
  split at h
  · simp [h]
  · cases h
theorem geti_a0 {α : Type} {f : α → AV} {l : List α} {i : Int} {v : α} (h : geti l i = some v) : (l.map f)[0 + i.toNat]? = some (f v) := by
  unfold geti at h
  split at h
  · simp [h]
  · cases h
theorem geti_s {s : ByteArray} {i : Int} {v : UInt8} (h : geti s.toList i = some v) : 0 ≤ i ∧ i < (s.size : Int) := by
  have e : s.toList.length = s.size := by rw [ByteArray.toList_eq, Array.length_toList]; rfl
  unfold geti at h
  split at h
  · rename_i hb; rw [e] at hb; exact hb
  · cases h
theorem geti_sd {s : ByteArray} {i : Int} {v : UInt8} (h : geti s.toList i = some v) : s.toList.getD i.toNat 0 = v := by
  unfold geti at h
  split at h
  · simp [h]
  · cases h
def bs (l : List UInt8) : ByteArray := ⟨l.toArray⟩
theorem seti_b {α β : Type} {f : α → β} {l l' : List α} {i : Int} {v : α} (h : seti l i v = some l') : 0 ≤ i ∧ i < ((l.map f).length : Int) := by
  unfold seti at h
  split at h
  · rename_i hb; simpa using hb
  · cases h
theorem seti_z {α : Type} {f : α → D} {l l' : List α} {i : Int} {v : α} (h : seti l i v = some l') : (l.map f).set i.toNat (f v) = l'.map f := by
  unfold seti at h
  split at h
  · cases h; rw [List.map_set]
  · cases h
theorem seti_len {α : Type} {l l' : List α} {i : Int} {v : α} (h : seti l i v = some l') : l'.length = l.length := by
  unfold seti at h
  split at h
  · cases h; simp
  · cases h
theorem apnd_e {α : Type} {b : Nat} {l m l' : List α} (h : apnd b l m = some l') : l' = l ++ m := by
  unfold apnd at h
  split at h
  · cases h; rfl
  · cases h
theorem apnd_b {α : Type} {b : Nat} {l m l' : List α} {f g : α → D} (h : apnd b l m = some l') : ((l.map f).length + (m.map g).length) * b ≤ 2 ^ 47 ∧ (l.map f).length + (m.map g).length ≤ 2 ^ 47 := by
  unfold apnd at h
  split at h
  · rename_i hb; simpa using hb
  · cases h
theorem apnd_b0 {α : Type} {b : Nat} {m l' : List α} {g : α → D} (h : apnd b [] m = some l') : (m.map g).length * b ≤ 2 ^ 47 ∧ (m.map g).length ≤ 2 ^ 47 := by
  simpa using apnd_b (f := g) (g := g) h
theorem apnd_z {α : Type} {b : Nat} {l m l' : List α} {f : α → D} (h : apnd b l m = some l') : l.map f ++ m.map f = l'.map f := by
  rw [apnd_e h, List.map_append]
theorem part_b {α : Type} {f : α → D} {l l' : List α} {a b : Int} (h : part l a b = some l') : 0 ≤ a ∧ a ≤ b ∧ b ≤ ((l.map f).length : Int) := by
  unfold part at h
  split at h
  · rename_i hb; simpa using hb
  · cases h
theorem part_b0 {α : Type} {f : α → D} {l l' : List α} {a : Int} (h : part l a l.length = some l') : 0 ≤ a ∧ a ≤ ((l.map f).length : Int) ∧ ((l.map f).length : Int) ≤ ((l.map f).length : Int) := by
  have := part_b (f := f) h
  simp at this ⊢
  exact this
theorem part_z {α : Type} {f : α → D} {l l' : List α} {a b : Int} (h : part l a b = some l') : ((l.map f).drop a.toNat).take (b.toNat - a.toNat) = l'.map f := by
  unfold part at h
  split at h
  · cases h; rw [List.map_take, List.map_drop]
  · cases h
theorem part_z0 {α : Type} {f : α → D} {l l' : List α} {a : Int} (h : part l a l.length = some l') : ((l.map f).drop a.toNat).take (((l.map f).length : Int).toNat - a.toNat) = l'.map f := by
  have := part_z (f := f) h
  simpa using this
theorem spart_inv {s s' : ByteArray} {a b : Int} (h : spart s a b = some s') : (0 ≤ a ∧ a ≤ b ∧ b ≤ (s.size : Int)) ∧ s.extract a.toNat b.toNat = s' := by
  unfold spart at h
  split at h
  · rename_i hb; cases h; exact ⟨hb, rfl⟩
  · cases h
theorem make_b {n c : Int} {b : Nat} {u : Unit} (h : chk (0 ≤ n ∧ n ≤ c ∧ c ≤ 1048576) = some u) (hb : b ≤ 65536) : 0 ≤ n ∧ n ≤ c ∧ c ≤ 1048576 ∧ b ≤ 65536 := by
  unfold chk at h
  split at h
  · rename_i q; exact ⟨q.1, q.2.1, q.2.2, hb⟩
  · cases h
def mget {K V : Type} [BEq K] : List (K × V) → K → Option V
  | [], _ => none
  | p :: l, k => if k == p.1 then some p.2 else mget l k
def mset {K V : Type} [BEq K] : List (K × V) → K → V → List (K × V)
  | [], k, v => [(k, v)]
  | p :: l, k, v => if k == p.1 then (k, v) :: l else p :: mset l k v
def entsD {K V : Type} (ek : K → D) (ev : V → D) (l : List (K × V)) : List (D × D) := l.map fun p => (ek p.1, ev p.2)
theorem mapGet_ok {K V : Type} [BEq K] {tk : TK} {ek : K → D} {ev : V → D} {l : List (K × V)} {k : K} (h : ∀ a b, keyEq tk (ek a) (ek b) = some (a == b)) : mapGet tk (ek k) (entsD ek ev l) = some ((mget l k).map ev) := by
  induction l with
  | nil => rfl
  | cons p l ih =>
    simp only [entsD, List.map_cons, mapGet, h, mget]
    cases k == p.1
    · simpa [entsD] using ih
    · simp
theorem mapSet_ok {K V : Type} [BEq K] {tk : TK} {ek : K → D} {ev : V → D} {l : List (K × V)} {k : K} {v : V} (h : ∀ a b, keyEq tk (ek a) (ek b) = some (a == b)) : mapSet tk (ek k) (ev v) (entsD ek ev l) = some (entsD ek ev (mset l k v)) := by
  induction l with
  | nil => rfl
  | cons p l ih =>
    simp only [entsD, List.map_cons, mapSet, h, mset]
    cases k == p.1
    · simp only [entsD] at ih
      simp [ih]
    · simp
theorem mapGet_none {K V : Type} [BEq K] {tk : TK} {ek : K → D} {ev : V → D} {l : List (K × V)} {k : K} {u : Unit} (h : ∀ a b, keyEq tk (ek a) (ek b) = some (a == b)) (g : chk ((mget l k).isNone = true) = some u) : mapGet tk (ek k) (entsD ek ev l) = some none := by
  rw [mapGet_ok h]
  unfold chk at g
  split at g
  · rename_i q
    cases hm : mget l k with
    | none => rfl
    | some v => rw [hm] at q; simp at q
  · simp at g
theorem mget_d {V : Type} {f : V → D} {o : Option V} {z : V} {zD : D} (hz : zD = f z) : (o.map f).getD zD = f (o.getD z) := by
  cases o <;> simp [hz]
theorem mget_s {V : Type} {f : V → D} {o : Option V} : (o.map f).isSome = o.isSome := by
  cases o <;> rfl
theorem mget_dg {V : Type} {f : V → D} {o : Option V} {z v : V} {zD : D} (hz : zD = f z) (g : some (o.getD z) = some v) : (o.map f).getD zD = f v := by
  rw [mget_d hz, Option.some.inj g]
theorem mget_sg {V : Type} {f : V → D} {o : Option V} {b : Bool} (g : some o.isSome = some b) : (o.map f).isSome = b := by
  rw [mget_s, Option.some.inj g]
theorem keyEq_i (a b : Int) : keyEq (.int .i64) (D.i a) (D.i b) = some (a == b) := by simp [keyEq]
theorem keyEq_b (a b : Bool) : keyEq .bool (D.b a) (D.b b) = some (a == b) := rfl
theorem keyEq_s (a b : ByteArray) : keyEq .str (D.s a) (D.s b) = some (a == b) := rfl
theorem keyEq_u8 (a b : UInt8) : keyEq (.int .u8) (D.u8 a) (D.u8 b) = some (a == b) := by
  simp only [keyEq, if_true, Option.some.injEq]
  rw [Bool.eq_iff_iff]
  simp only [beq_iff_eq, Int.natCast_inj]
  exact UInt8.toNat_inj
theorem keyEq_u16 (a b : UInt16) : keyEq (.int .u16) (D.u16 a) (D.u16 b) = some (a == b) := by
  simp only [keyEq, if_true, Option.some.injEq]
  rw [Bool.eq_iff_iff]
  simp only [beq_iff_eq, Int.natCast_inj]
  exact UInt16.toNat_inj
theorem keyEq_u32 (a b : UInt32) : keyEq (.int .u32) (D.u32 a) (D.u32 b) = some (a == b) := by
  simp only [keyEq, if_true, Option.some.injEq]
  rw [Bool.eq_iff_iff]
  simp only [beq_iff_eq, Int.natCast_inj]
  exact UInt32.toNat_inj
theorem keyEq_u64 (a b : UInt64) : keyEq (.int .u64) (D.u64 a) (D.u64 b) = some (a == b) := by
  simp only [keyEq, if_true, Option.some.injEq]
  rw [Bool.eq_iff_iff]
  simp only [beq_iff_eq, Int.natCast_inj]
  exact UInt64.toNat_inj
theorem chk_inv {p : Prop} [Decidable p] {u : Unit} (h : chk p = some u) : p := by
  unfold chk at h
  split at h
  · assumption
  · cases h
theorem cut_join {τ ρ : Type} {np : Nat} {X : (ASt → Prop) → Prop} {K : ASt → Prop} {m : (τ → Option ρ) → Option ρ} {k : τ → Option ρ} {r : ρ} (St : τ → ASt)
    (h1 : ∀ k' : τ → Option ρ, m k' = some r → X (fun t => ∃ s, Weak np t s ∧ ∃ v, k' v = some r ∧ s = St v)) (h2 : ∀ v, k v = some r → K (St v)) : joinP m k = some r → CutP np X K :=
  fun h => .cut (fun s => ∃ v, k v = some r ∧ s = St v) (h1 k h) fun _ ⟨v, hv, hs⟩ => hs ▸ h2 v hv
theorem view_b {α : Type} {l : List α} {a b : Int} {u : Unit} {f : α → D} (h : chk (0 ≤ a ∧ a ≤ b ∧ b ≤ (l.length : Int)) = some u) : 0 ≤ a ∧ a ≤ b ∧ b ≤ ((l.map f).length : Int) := by
  rw [List.length_map]; exact chk_inv h
theorem view_b0 {α : Type} {l : List α} {a : Int} {u : Unit} {f : α → D} (h : chk (0 ≤ a ∧ a ≤ (l.length : Int) ∧ (l.length : Int) ≤ (l.length : Int)) = some u) : 0 ≤ a ∧ a ≤ ((l.map f).length : Int) ∧ ((l.map f).length : Int) ≤ ((l.map f).length : Int) := by
  rw [List.length_map]; exact chk_inv h
theorem view_z {α : Type} {l : List α} {a n : Nat} {f : α → D} : ((l.map f).drop a).take n = List.map f ((l.drop a).take n) := by simp
theorem view_i {α : Type} {l : List α} {a n : Nat} {i : Int} {v : α} (h : geti ((l.drop a).take n) i = some v) : 0 ≤ i ∧ i < (n : Int) := by
  unfold geti at h
  split at h
  · rename_i hq
    have : ((l.drop a).take n).length ≤ n := List.length_take_le _ _
    omega
  · simp at h
theorem view_d {α : Type} {l : List α} {a n : Nat} {i : Int} {v : α} {f : α → D} (h : geti ((l.drop a).take n) i = some v) : (l.map f).getD (a + i.toNat) default = f v := by
  unfold geti at h
  split at h
  · rename_i hq
    rw [List.getElem?_take, if_pos (by have : ((l.drop a).take n).length ≤ n := List.length_take_le _ _; omega), List.getElem?_drop] at h
    simp [List.getD_eq_getElem?_getD, h]
  · simp at h
theorem view_w {α : Type} {f : α → D} {l : List α} {a n : Nat} : ((l.map f).drop a).take n = ((l.drop a).take n).map f := by simp
theorem move_b {α : Type} {l v : List α} {a b : Int} {f : α → D} (h : part l a b = some v) : 0 ≤ a ∧ a ≤ b ∧ b ≤ b ∧ b ≤ ((l.map f).length : Int) := by
  have := part_b (f := f) h
  exact ⟨this.1, this.2.1, Int.le_refl _, this.2.2⟩
theorem move_b0 {α : Type} {l v : List α} {a : Int} {f : α → D} (h : part l a l.length = some v) : 0 ≤ a ∧ a ≤ ((l.map f).length : Int) ∧ ((l.map f).length : Int) ≤ ((l.map f).length : Int) ∧ ((l.map f).length : Int) ≤ ((l.map f).length : Int) := by
  have := part_b0 (f := f) h
  exact ⟨this.1, this.2.1, Int.le_refl _, Int.le_refl _⟩
theorem move_bm {α : Type} {l v : List α} {a b m : Int} {f : α → D} {u : Unit} (h : part l a b = some v) (hm : chk (b ≤ m ∧ m ≤ (l.length : Int)) = some u) : 0 ≤ a ∧ a ≤ b ∧ b ≤ m ∧ m ≤ ((l.map f).length : Int) := by
  have h1 := part_b (f := f) h
  have h2 := chk_inv hm
  rw [List.length_map]
  exact ⟨h1.1, h1.2.1, h2.1, h2.2⟩
theorem clear_z {α : Type} {l : List α} {a n : Nat} {z : α} {f : α → D} : (l.map f).take a ++ List.replicate n (f z) ++ (l.map f).drop (a + n) = List.map f (l.take a ++ List.replicate n z ++ l.drop (a + n)) := by simp
def cw (s s' : ASt) : List AV → List D → Prop
  | [], [] => True
  | a :: l, y :: l' => (y.isAgg = false ∧ AvW s s' a (.d y)) ∧ cw s s' l l'
  | _, _ => False
theorem cw_len {s s' : ASt} : ∀ {cs : List AV} {ys : List D}, cw s s' cs ys → ys.length = cs.length
  | [], [], _ => rfl
  | _ :: _, _ :: _, h => by simp [cw_len h.2]
theorem cw_get {s s' : ASt} : ∀ {cs : List AV} {ys : List D}, cw s s' cs ys → ∀ i (hi : i < cs.length) (hi' : i < ys.length), ys[i].isAgg = false ∧ AvW s s' cs[i] (.d ys[i])
  | [], [], _, i, hi, _ => by simp at hi
  | _ :: _, _ :: _, h, 0, _, _ => h.1
  | _ :: _, _ :: _, h, i + 1, hi, hi' => cw_get h.2 i (by simpa using hi) (by simpa using hi')
theorem _root_.Go.AX.AvW.box {s s' : ASt} (r : Nat) (cs : List AV) (ys : List D) (sz : Nat) (h : s.ob.getD r none = some (.box cs)) (h' : s'.ob.getD r none = none) (hsz : sz = cs.length) (hp : 0 < cs.length) (hc : cw s s' cs ys) : AvW s s' (.own r 1) (.d (.lst sz [.agg ys])) :=
  .lstB r cs ys sz h h' hsz (cw_len hc) hp (fun i hi hi' => (cw_get hc i hi hi').2) fun i hi => (cw_get hc i (by rw [← cw_len hc]; exact hi) hi).1
theorem join_end {τ ρ : Type} {np : Nat} {t : ASt} {St : τ → ASt} {k : τ → Option ρ} {r : ρ} {v : τ} (hw : Weak np t (St v)) (h : k v = some r) : ∃ s, Weak np t s ∧ ∃ v, k v = some r ∧ s = St v :=
  ⟨_, hw, v, h, rfl⟩
theorem loop_for {np : Nat} {body : (AE → ASt → Prop) → ASt → Prop} {K : AE → ASt → Prop} {st : ASt} {α σ ρ : Type} {done : σ → Option ρ} {bd : (σ → Option ρ) → α → Nat → σ → Option ρ} {l : List α} {s0 : σ} {r : ρ}
    (slot sz : Nat) (enc : α → D) (hs : st.tm.getD slot .dead = .d (.lst sz (l.map enc))) (St : Nat → σ → ASt) (hw : Weak np st (St 0 s0))
    (hend : ∀ (s : σ) (K' : ASt → Prop), done s = some r → body (onL K K') (St l.length s))
    (hstep : ∀ (next : σ → Option ρ) (i : Nat) (x : α) (s : σ) (K' : ASt → Prop), i < l.length → (l.map enc).getD i default = enc x → IntKind.i64.wrap ((i : Int) + 1) = ((i + 1 : Nat) : Int) → bd next x i s = some r →
      (∀ t v, Weak np t (St (i + 1) v) → next v = some r → K' t) → body (onL K K') (St i s)) : forR done bd l 0 s0 = some r → LoopP np body K st := by
  intro h
  refine .mk fun hb _ => ?_
  have hl : l.length ≤ 9223372036854775807 := by simpa using hb slot sz _ hs
  refine ⟨fun s n => ∃ (i : Nat) (v : σ), n = l.length - i ∧ i ≤ l.length ∧ forR done bd (l.drop i) i v = some r ∧ s = St i v, ⟨St 0 s0, l.length, hw, 0, s0, by simp, by simp, by simpa using h, rfl⟩, ?_⟩
  rintro _ n ⟨i, v, hn, hi, hf, rfl⟩
  by_cases he : i = l.length
  · subst he
    simp only [List.drop_length, forR] at hf
    exact hend v _ hf
  · have hlt : i < l.length := by omega
    rw [List.drop_eq_getElem_cons hlt] at hf
    simp only [forR] at hf
    exact hstep _ i l[i] v _ hlt (by simp [hlt]) (i64_id (by omega) ⟨by omega, by omega⟩) hf
      fun t v' hw' hn' => ⟨_, l.length - (i + 1), by omega, hw', i + 1, v', rfl, by omega, hn', rfl⟩
theorem loop_own {np : Nat} {body : (AE → ASt → Prop) → ASt → Prop} {K : AE → ASt → Prop} {st : ASt} {α σ ρ : Type} {done : σ → Option ρ} {bd : (σ → Option ρ) → α → Nat → σ → Option ρ} {l : List α} {s0 : σ} {r : ρ}
    (slot e sz : Nat) (fz : Bool) (enc : α → D) (hs : st.ob.getD slot none = some (.row e sz (l.map enc) fz)) (St : Nat → σ → ASt) (hw : Weak np st (St 0 s0))
    (hend : ∀ (s : σ) (K' : ASt → Prop), done s = some r → body (onL K K') (St l.length s))
    (hstep : ∀ (next : σ → Option ρ) (i : Nat) (x : α) (s : σ) (K' : ASt → Prop), i < l.length → (l.map enc).getD i default = enc x → IntKind.i64.wrap ((i : Int) + 1) = ((i + 1 : Nat) : Int) → bd next x i s = some r →
      (∀ t v, Weak np t (St (i + 1) v) → next v = some r → K' t) → body (onL K K') (St i s)) : forR done bd l 0 s0 = some r → LoopP np body K st := by
  intro h
  refine .mk fun _ hb => ?_
  have hl : l.length ≤ 9223372036854775807 := by simpa using hb slot _ _ _ _ hs
  refine ⟨fun s n => ∃ (i : Nat) (v : σ), n = l.length - i ∧ i ≤ l.length ∧ forR done bd (l.drop i) i v = some r ∧ s = St i v, ⟨St 0 s0, l.length, hw, 0, s0, by simp, by simp, by simpa using h, rfl⟩, ?_⟩
  rintro _ n ⟨i, v, hn, hi, hf, rfl⟩
  by_cases he : i = l.length
  · subst he
    simp only [List.drop_length, forR] at hf
    exact hend v _ hf
  · have hlt : i < l.length := by omega
    rw [List.drop_eq_getElem_cons hlt] at hf
    simp only [forR] at hf
    exact hstep _ i l[i] v _ hlt (by simp [hlt]) (i64_id (by omega) ⟨by omega, by omega⟩) hf
      fun t v' hw' hn' => ⟨_, l.length - (i + 1), by omega, hw', i + 1, v', rfl, by omega, hn', rfl⟩
theorem lt_t {α : Type} {l : List α} {i : Nat} (h : i < l.length) : decide ((i : Int) < (l.length : Int)) = true := by simpa using h
theorem lt_f {α : Type} {l : List α} : decide ((l.length : Int) < (l.length : Int)) = false := by simp
theorem idx_b {α β : Type} {f : α → β} {l : List α} {i : Nat} (h : i < l.length) : 0 ≤ (i : Int) ∧ (i : Int) < ((l.map f).length : Int) := ⟨by omega, by simpa using h⟩
theorem loop_while {np : Nat} {body : (AE → ASt → Prop) → ASt → Prop} {K : AE → ASt → Prop} {st : ASt} {σ ρ : Type} {bd : (σ → Option ρ) → σ → Option ρ} {n : Nat} {s0 : σ} {r : ρ}
    (St : σ → ASt) (hw : Weak np st (St s0))
    (hstep : ∀ (next : σ → Option ρ) (s : σ) (K' : ASt → Prop), bd next s = some r → (∀ t v, Weak np t (St v) → next v = some r → K' t) → body (onL K K') (St s)) : whileR bd n s0 = some r → LoopP np body K st := by
  intro h
  refine .mk fun _ _ => ⟨fun s n => ∃ v, whileR bd n v = some r ∧ s = St v, ⟨St s0, n, hw, s0, h, rfl⟩, ?_⟩
  rintro _ m ⟨v, hf, rfl⟩
  cases m with
  | zero => cases hf
  | succ m => exact hstep _ v _ hf fun t v' hw' hn' => ⟨_, m, Nat.lt_succ_self m, hw', v', hn', rfl⟩
def maskOf (ps : List Nat) (acc : List Nat) : Nat := ps.foldl (fun m j => m ||| 2 ^ j ||| acc.getD (acc.length - 1 - j) 0) 0
def ancB : List Oper → List Nat → List Nat
  | [], acc => acc
  | o :: l, acc => ancB l (maskOf (preds o) acc :: acc)
def pairsB (ops : Array Oper) (o : Oper) (m : Nat) : List Oper → Bool
  | [] => true
  | q :: prev => (m.testBit prev.length || q.apart ops o) && pairsB ops o m prev
def drawB.go (ops : Array Oper) : List Oper → List Oper → List Nat → Bool
  | [], _, _ => true
  | o :: l, prev, masks => (preds o).all (fun j => Nat.blt j prev.length) && (match o.op with | .select _ _ => false | _ => true) && pairsB ops o (maskOf (preds o) masks) prev &&
      drawB.go ops l (o :: prev) (maskOf (preds o) masks :: masks)
def drawB (ops : Array Oper) : Bool := drawB.go ops ops.toList [] []
theorem ancs_append : ∀ (a b : List Oper) (acc : List (List Nat)), ancs (a ++ b) acc = ancs b (ancs a acc)
  | [], _, _ => rfl
  | o :: a, b, acc => ancs_append a b _
theorem ancs_suffix : ∀ (l : List Oper) (acc : List (List Nat)), ∃ p, ancs l acc = p ++ acc ∧ p.length = l.length
  | [], acc => ⟨[], rfl, rfl⟩
  | o :: l, acc => by
    obtain ⟨p, h1, h2⟩ := ancs_suffix l (((preds o).flatMap fun j => j :: acc.getD (acc.length - 1 - j) []) :: acc)
    exact ⟨p ++ [(preds o).flatMap fun j => j :: acc.getD (acc.length - 1 - j) []], by rw [ancs, h1]; simp, by simp [h2]⟩
def MaskR (masks : List Nat) (acc : List (List Nat)) : Prop := masks.length = acc.length ∧ ∀ k j, (masks.getD k 0).testBit j = true → j ∈ acc.getD k []
theorem maskOf_mem {masks : List Nat} {acc : List (List Nat)} (h : MaskR masks acc) (ps : List Nat) (j : Nat) (hj : (maskOf ps masks).testBit j = true) : j ∈ ps.flatMap fun j => j :: acc.getD (acc.length - 1 - j) [] := by
  have key : ∀ (ps : List Nat) (m : Nat), (ps.foldl (fun m j => m ||| 2 ^ j ||| masks.getD (masks.length - 1 - j) 0) m).testBit j = true →
      m.testBit j = true ∨ j ∈ ps.flatMap fun j => j :: acc.getD (acc.length - 1 - j) [] := by
    intro ps
    induction ps with
    | nil => intro m h; exact .inl h
    | cons p ps ih =>
      intro m hm
      simp only [List.foldl_cons] at hm
      rcases ih _ hm with g | g
      · simp only [Nat.testBit_or, Bool.or_eq_true, Nat.testBit_two_pow, decide_eq_true_eq] at g
        rcases g with (g | g) | g
        · exact .inl g
        · subst g; exact .inr (by simp)
        · rw [h.1] at g
          have := h.2 _ _ g
          exact .inr (by simp only [List.flatMap_cons, List.mem_append, List.mem_cons]; exact .inl (.inr this))
      · exact .inr (by simp only [List.flatMap_cons, List.mem_append]; exact .inr g)
  rcases key ps 0 hj with g | g
  · simp at g
  · exact g
theorem MaskR.cons {masks : List Nat} {acc : List (List Nat)} (h : MaskR masks acc) (ps : List Nat) : MaskR (maskOf ps masks :: masks) ((ps.flatMap fun j => j :: acc.getD (acc.length - 1 - j) []) :: acc) := by
  refine ⟨by simp [h.1], fun k j hk => ?_⟩
  cases k with
  | zero => exact maskOf_mem h ps j hk
  | succ k => exact h.2 k j hk
theorem ancB_R : ∀ (l : List Oper) {masks : List Nat} {acc : List (List Nat)}, MaskR masks acc → MaskR (ancB l masks) (ancs l acc)
  | [], _, _, h => h
  | o :: l, _, _, h => ancB_R l (h.cons (preds o))
theorem pairsB_ok {ops : Array Oper} {o : Oper} {m : Nat} : ∀ {prev : List Oper}, pairsB ops o m prev = true → ∀ j q, j < prev.length → prev.reverse[j]? = some q → m.testBit j = true ∨ q.apart ops o = true
  | [], _, j, q, hj, _ => by simp at hj
  | p :: prev, h, j, q, hj, hq => by
    simp only [pairsB, Bool.and_eq_true, Bool.or_eq_true] at h
    simp only [List.reverse_cons] at hq
    by_cases he : j = prev.length
    · subst he
      rw [List.getElem?_append_right (by simp)] at hq
      simp at hq
      subst hq
      exact h.1
    · have hlt : j < prev.length := by simp at hj; omega
      rw [List.getElem?_append_left (by simpa using hlt)] at hq
      exact pairsB_ok h.2 j q hlt hq
theorem drawGo_ok {ops : Array Oper} : ∀ (l prev : List Oper) (masks : List Nat), prev.reverse ++ l = ops.toList → MaskR masks (ancs prev.reverse []) → drawB.go ops l prev masks = true →
    ∀ i o, prev.length ≤ i → ops[i]? = some o → ((preds o).all (fun j => Nat.blt j i) && (match o.op with | .select _ _ => false | _ => true) &&
      (List.range i).all fun j => (ancOf ops i).contains j || (match ops[j]? with
        | none => false
        | some q => q.apart ops o)) = true
  | [], prev, masks, hl, _, _, i, o, hi, ho => by
    have : ops.toList.length = prev.length := by rw [← hl]; simp
    simp only [Array.length_toList] at this
    have := (Array.getElem?_eq_some_iff.1 ho).1
    omega
  | q :: l, prev, masks, hl, hR, h, i, o, hi, ho => by
    simp only [drawB.go, Bool.and_eq_true] at h
    obtain ⟨⟨⟨h1, h2⟩, h3⟩, h4⟩ := h
    by_cases he : i = prev.length
    · subst he
      have ho' : ops.toList[prev.length]? = some o := by simpa using ho
      rw [← hl, List.getElem?_append_right (by simp)] at ho'
      simp at ho'
      subst ho'
      have ha : ancOf ops prev.length = (preds q).flatMap fun j => j :: (ancs prev.reverse []).getD ((ancs prev.reverse []).length - 1 - j) [] := by
        unfold ancOf
        rw [← hl, ancs_append, ancs]
        obtain ⟨p, hp, hpl⟩ := ancs_suffix l (((preds q).flatMap fun j => j :: (ancs prev.reverse []).getD ((ancs prev.reverse []).length - 1 - j) []) :: ancs prev.reverse [])
        have hs : ops.size - 1 - prev.length = p.length := by
          have : ops.toList.length = prev.length + (l.length + 1) := by rw [← hl]; simp
          simp only [Array.length_toList] at this
          omega
        rw [hp, hs]
        simp
      simp only [Bool.and_eq_true]
      refine ⟨⟨h1, h2⟩, ?_⟩
      rw [List.all_eq_true]
      intro j hj
      have hj := List.mem_range.1 hj
      have hjs : ∃ p, ops[j]? = some p ∧ prev.reverse[j]? = some p := by
        have hlt : j < prev.reverse.length := by simpa using hj
        refine ⟨prev.reverse[j], ?_, List.getElem?_eq_getElem hlt⟩
        have : ops.toList[j]? = some prev.reverse[j] := by rw [← hl, List.getElem?_append_left hlt, List.getElem?_eq_getElem hlt]
        simpa using this
      obtain ⟨p, hp1, hp2⟩ := hjs
      rw [Bool.or_eq_true]
      rcases pairsB_ok h3 j p hj hp2 with g | g
      · left
        rw [ha]
        simpa using maskOf_mem hR (preds q) j g
      · right
        rw [hp1]
        exact g
    · refine drawGo_ok l (q :: prev) _ (by simpa using hl) ?_ h4 i o (by simp; omega) ho
      rw [List.reverse_cons, ancs_append]
      exact hR.cons (preds q)
theorem drawB_ok {ops : Array Oper} (h : drawB ops = true) : drawOK ops = true := by
  unfold drawOK
  rw [List.all_eq_true]
  intro i hi
  have hi := List.mem_range.1 hi
  have := drawGo_ok ops.toList [] [] (by simp) ⟨rfl, fun k j hk => by simp at hk⟩ h i ops[i] (by simp) (by simp [hi])
  simp only [hi, getElem?_pos]
  exact this
def confB.conf (M : List Nat) (n i : Nat) (fp wr : List Nat) : Nat → List (List Nat × List Nat) → Bool
  | _, [] => true
  | j, (fp', wr') :: l => ((M.getD (n - 1 - j) 0).testBit i || ((wr.all fun r => !fp'.contains r) && fp.all fun r => !wr'.contains r)) && confB.conf M n i fp wr (j + 1) l
def confB.go (M : List Nat) (n : Nat) : Nat → List (List Nat × List Nat) → Bool
  | _, [] => true
  | i, (fp, wr) :: l => confB.conf M n i fp wr (i + 1) l && confB.go M n (i + 1) l
def confB (ops : Array Oper) (evs : List (List Nat × List Nat)) : Bool := confB.go (ancB ops.toList []) ops.size 0 evs
theorem confB_ok {ops : Array Oper} {evs : List (List Nat × List Nat)} (h : confB ops evs = true) : confOK ops 0 evs = true := by
  have hR := ancB_R ops.toList (masks := []) (acc := []) ⟨rfl, fun k j hk => by simp at hk⟩
  have c : ∀ (l : List (List Nat × List Nat)) (i : Nat) (fp wr : List Nat) (j : Nat), confB.conf (ancB ops.toList []) ops.size i fp wr j l = true → confOK.conf ops i fp wr j l = true := by
    intro l
    induction l with
    | nil => intro i fp wr j _; rfl
    | cons x l ih =>
      intro i fp wr j hc
      obtain ⟨fp', wr'⟩ := x
      simp only [confB.conf, Bool.and_eq_true] at hc
      simp only [confOK.conf, Bool.and_eq_true]
      refine ⟨?_, ih _ _ _ _ hc.2⟩
      have hc1 := hc.1
      rw [Bool.or_eq_true] at hc1 ⊢
      rcases hc1 with g | g
      · exact .inl (by simpa [ancOf] using hR.2 _ _ g)
      · exact .inr g
  have g : ∀ (l : List (List Nat × List Nat)) (i : Nat), confB.go (ancB ops.toList []) ops.size i l = true → confOK ops i l = true := by
    intro l
    induction l with
    | nil => intro i _; rfl
    | cons x l ih =>
      intro i hc
      obtain ⟨fp, wr⟩ := x
      simp only [confB.go, Bool.and_eq_true] at hc
      simp only [confOK, Bool.and_eq_true]
      exact ⟨c _ _ _ _ _ hc.1, ih _ hc.2⟩
  exact g _ _ h
theorem dOB {ops : Array Oper} {K : Prop} (h : drawB ops = true) (k : K) : drawOK ops = true ∧ K := ⟨drawB_ok h, k⟩
theorem cOB {ops : Array Oper} {e : List (List Nat × List Nat)} {K : Prop} (h : confB ops e = true) (k : K) : confOK ops 0 e = true ∧ K := ⟨confB_ok h, k⟩
theorem i64_of_u8 (x : UInt8) : IntKind.i64.wrap (x.toNat : Int) = (x.toNat : Int) := by
  have := x.toNat_lt
  exact i64_id rfl ⟨by omega, by omega⟩
theorem i64_of_u16 (x : UInt16) : IntKind.i64.wrap (x.toNat : Int) = (x.toNat : Int) := by
  have := x.toNat_lt
  exact i64_id rfl ⟨by omega, by omega⟩
theorem i64_of_u32 (x : UInt32) : IntKind.i64.wrap (x.toNat : Int) = (x.toNat : Int) := by
  have := x.toNat_lt
  exact i64_id rfl ⟨by omega, by omega⟩
def toU8 (x : Int) : UInt8 := UInt8.ofNat (x % 256).toNat
def toU16 (x : Int) : UInt16 := UInt16.ofNat (x % 65536).toNat
def toU32 (x : Int) : UInt32 := UInt32.ofNat (x % 4294967296).toNat
def toU64 (x : Int) : UInt64 := UInt64.ofNat (x % 18446744073709551616).toNat
theorem u8_wrap (x : Int) : IntKind.u8.wrap x = ((toU8 x).toNat : Int) := by
  have e : (2 ^ IntKind.u8.bits : Int) = 256 := by decide
  simp only [IntKind.wrap, IntKind.signed, e, toU8, UInt8.toNat_ofNat']
  simp
  omega
theorem u16_wrap (x : Int) : IntKind.u16.wrap x = ((toU16 x).toNat : Int) := by
  have e : (2 ^ IntKind.u16.bits : Int) = 65536 := by decide
  simp only [IntKind.wrap, IntKind.signed, e, toU16, UInt16.toNat_ofNat']
  simp
  omega
theorem u32_wrap (x : Int) : IntKind.u32.wrap x = ((toU32 x).toNat : Int) := by
  have e : (2 ^ IntKind.u32.bits : Int) = 4294967296 := by decide
  simp only [IntKind.wrap, IntKind.signed, e, toU32, UInt32.toNat_ofNat']
  simp
  omega
theorem u64_wrap (x : Int) : IntKind.u64.wrap x = ((toU64 x).toNat : Int) := by
  have e : (2 ^ IntKind.u64.bits : Int) = 18446744073709551616 := by decide
  simp only [IntKind.wrap, IntKind.signed, e, toU64, UInt64.toNat_ofNat']
  simp
  omega
theorem toU8_toNat {n : Int} (h : 0 ≤ n ∧ n < 256) : ((toU8 n).toNat : Int) = n := by
  simp only [toU8, UInt8.toNat_ofNat']; simp; omega
theorem toU16_toNat {n : Int} (h : 0 ≤ n ∧ n < 65536) : ((toU16 n).toNat : Int) = n := by
  simp only [toU16, UInt16.toNat_ofNat']; simp; omega
theorem toU32_toNat {n : Int} (h : 0 ≤ n ∧ n < 4294967296) : ((toU32 n).toNat : Int) = n := by
  simp only [toU32, UInt32.toNat_ofNat']; simp; omega
theorem toU64_toNat {n : Int} (h : 0 ≤ n ∧ n < 18446744073709551616) : ((toU64 n).toNat : Int) = n := by
  simp only [toU64, UInt64.toNat_ofNat']; simp; omega
theorem fdiv_range {n m : Nat} (s : Nat) (h : n < m) : 0 ≤ (n : Int).fdiv (2 ^ s) ∧ (n : Int).fdiv (2 ^ s) < m := by
  have e : (2 ^ s : Int) = ((2 ^ s : Nat) : Int) := by simp
  rw [e, Int.fdiv_eq_ediv_of_nonneg _ (Int.natCast_nonneg _), ← Int.natCast_ediv]
  have := Nat.div_le_self n (2 ^ s)
  generalize n / 2 ^ s = q at *
  omega
theorem u8_shr (x : UInt8) (s : Nat) : (x.toNat : Int).fdiv (2 ^ s) = ((toU8 ((x.toNat : Int).fdiv (2 ^ s))).toNat : Int) := (toU8_toNat (fdiv_range s x.toNat_lt)).symm
theorem u16_shr (x : UInt16) (s : Nat) : (x.toNat : Int).fdiv (2 ^ s) = ((toU16 ((x.toNat : Int).fdiv (2 ^ s))).toNat : Int) := (toU16_toNat (fdiv_range s x.toNat_lt)).symm
theorem u32_shr (x : UInt32) (s : Nat) : (x.toNat : Int).fdiv (2 ^ s) = ((toU32 ((x.toNat : Int).fdiv (2 ^ s))).toNat : Int) := (toU32_toNat (fdiv_range s x.toNat_lt)).symm
theorem u64_shr (x : UInt64) (s : Nat) : (x.toNat : Int).fdiv (2 ^ s) = ((toU64 ((x.toNat : Int).fdiv (2 ^ s))).toNat : Int) := (toU64_toNat (fdiv_range s x.toNat_lt)).symm
theorem tmod_range {n m : Nat} (s : Nat) (h : n < m) : 0 ≤ (n : Int).tmod s ∧ (n : Int).tmod s < m := by
  rw [← Int.ofNat_tmod]
  have := Nat.mod_le n s
  omega
theorem u8_rem (x y : UInt8) : (x.toNat : Int).tmod y.toNat = ((toU8 ((x.toNat : Int).tmod y.toNat)).toNat : Int) := (toU8_toNat (tmod_range _ x.toNat_lt)).symm
theorem u16_rem (x y : UInt16) : (x.toNat : Int).tmod y.toNat = ((toU16 ((x.toNat : Int).tmod y.toNat)).toNat : Int) := (toU16_toNat (tmod_range _ x.toNat_lt)).symm
theorem u32_rem (x y : UInt32) : (x.toNat : Int).tmod y.toNat = ((toU32 ((x.toNat : Int).tmod y.toNat)).toNat : Int) := (toU32_toNat (tmod_range _ x.toNat_lt)).symm
theorem u64_rem (x y : UInt64) : (x.toNat : Int).tmod y.toNat = ((toU64 ((x.toNat : Int).tmod y.toNat)).toNat : Int) := (toU64_toNat (tmod_range _ x.toNat_lt)).symm
end Go.AX
end
section
namespace Go.AX
open Go.RowKit Go.Deep Go.ChangeShapes Go.WideShapes Go.ChangeAt
section
variable {H : Type} {enc : TypeId × Value → H} {P : Program} {w : World}
theorem Reads.map' {t : Nat} {α β : Type} {cells : α → List D} {ok : α → Prop} (h : Reads enc P w t cells ok) {cells' : β → List D} {ok' : β → Prop} (g : α → β) (hc : ∀ a, ok a → cells' (g a) = cells a) (hk : ∀ a, ok a → ok' (g a)) : Reads enc P w t cells' ok' := by
  intro fuel cs x hx hw
  obtain ⟨a, h1, h2⟩ := h fuel cs x hx hw
  exact ⟨g a, hk a h1, by rw [hc a h1]; exact h2⟩
theorem wf_range {k : IntKind} {n : Int} (h : (Lit.int k n).wf = true) : k.min ≤ n ∧ n ≤ k.max := by simpa [Lit.wf] using h
theorem reads_i64 {t : Nat} (ht : P.underlying t = some (.int .i64)) : Reads enc P w t (fun n : Int => [D.i n]) I64 :=
  (reads_int ht).map' id (fun _ _ => rfl) fun a h => by
    have := wf_range h
    simpa [IntKind.min, IntKind.max, IntKind.signed, IntKind.bits, I64] using this
theorem reads_u8 {t : Nat} (ht : P.underlying t = some (.int .u8)) : Reads enc P w t (fun n : UInt8 => [D.u8 n]) (fun _ => True) :=
  (reads_int ht).map' toU8 (fun a h => by
    have := wf_range h
    have := toU8_toNat (n := a) (by simp [IntKind.min, IntKind.max, IntKind.signed, IntKind.bits] at this; omega)
    simp only [D.u8, this]) fun _ _ => trivial
theorem reads_u16 {t : Nat} (ht : P.underlying t = some (.int .u16)) : Reads enc P w t (fun n : UInt16 => [D.u16 n]) (fun _ => True) :=
  (reads_int ht).map' toU16 (fun a h => by
    have := wf_range h
    have := toU16_toNat (n := a) (by simp [IntKind.min, IntKind.max, IntKind.signed, IntKind.bits] at this; omega)
    simp only [D.u16, this]) fun _ _ => trivial
theorem reads_u32 {t : Nat} (ht : P.underlying t = some (.int .u32)) : Reads enc P w t (fun n : UInt32 => [D.u32 n]) (fun _ => True) :=
  (reads_int ht).map' toU32 (fun a h => by
    have := wf_range h
    have := toU32_toNat (n := a) (by simp [IntKind.min, IntKind.max, IntKind.signed, IntKind.bits] at this; omega)
    simp only [D.u32, this]) fun _ _ => trivial
theorem reads_u64 {t : Nat} (ht : P.underlying t = some (.int .u64)) : Reads enc P w t (fun n : UInt64 => [D.u64 n]) (fun _ => True) :=
  (reads_int ht).map' toU64 (fun a h => by
    have := wf_range h
    have := toU64_toNat (n := a) (by simp [IntKind.min, IntKind.max, IntKind.signed, IntKind.bits] at this; omega)
    simp only [D.u64, this]) fun _ _ => trivial
theorem open_one {t : Nat} {td : TypeDesc} (ht : P.underlying t = some td) (hk : (match td with | .int _ | .bool | .string | .slice _ => true | _ => false) = true) {α : Type} {c : α → D} {ok : α → Prop} (h : Reads enc P w t (fun a => [c a]) ok) {base : Nat} {v : Value} {d : DataW H} {p : List MemPlace}
    (hval : Value.okWide P w .any base t v) (hv : DataW.Trod enc P w 0 (fun _ => true) true t v d p) (hw : Wt P t d) : ∃ x, ok x ∧ RepA (Old w) w (fun _ => none) (ofL []) (.d (c x)) v := by
  obtain ⟨fuel, hf⟩ := hv
  obtain ⟨x, h1, h2⟩ := h fuel _ _ hf hw
  refine ⟨x, h1, .d _ _ (RepI.val (?_ : RepI w [c x] [v]))⟩
  have hna : ∀ cs, v ≠ .agg cs := by
    rintro cs rfl
    unfold Value.okWide at hval
    rw [ht] at hval
    cases td <;> simp at hk <;> simp [Cell.okWide, Cell.ok, ht] at hval
  have : v.cells.toList = [v] := by
    cases v <;> first | rfl | (rename_i cs; exact absurd rfl (hna cs))
  rwa [this] at h2
theorem open_struct {t : Nat} {F : Array Field} (ht : P.underlying t = some (.struct F)) {α : Type} {c : α → List D} {ok : α → Prop} (h : Reads enc P w t c ok) {base : Nat} {v : Value} {d : DataW H} {p : List MemPlace}
    (hval : Value.okWide P w .any base t v) (hv : DataW.Trod enc P w 0 (fun _ => true) true t v d p) (hw : Wt P t d) : ∃ x, ok x ∧ RepA (Old w) w (fun _ => none) (ofL []) (.d (.agg (c x))) v := by
  unfold Value.okWide at hval
  rw [ht] at hval
  obtain ⟨cs, rfl, _⟩ := hval
  obtain ⟨x, h1, h2⟩ := open_aggA h hv hw
  exact ⟨x, h1, .d _ _ h2⟩
inductive Opened (w : World) : List Value → List AV → Prop
  | nil : Opened w [] []
  | cons {v : Value} {x : D} {vs : List Value} {as : List AV} (h : RepA (Old w) w (fun _ => none) (ofL []) (.d x) v) (t : Opened w vs as) : Opened w (v :: vs) (.d x :: as)
theorem Opened.get {vs : List Value} {as : List AV} (h : Opened w vs as) : vs.length = as.length ∧ ∀ i (hi : i < as.length), RepA (Old w) w (fun _ => none) (ofL []) as[i] (vs.getD i undef) ∧ Closed (ofL []) as[i] := by
  induction h with
  | nil => exact ⟨rfl, fun i hi => by simp at hi⟩
  | cons h t ih =>
    refine ⟨by simp [ih.1], fun i hi => ?_⟩
    cases i with
    | zero => exact ⟨h, closed_d _ _⟩
    | succ i => simpa using ih.2 i (by simpa using hi)
theorem trodAll_stays (hl : laidOutB P = true) {W W' : World} (hb : Below W.heap.size W W') : ∀ {ts : List TypeId} {vs : List Value} {ds : List (DataW H)} {ps : List MemPlace},
    (ts.all fun t => P.readableRec t && decide (t < P.types.size)) = true → DataW.TrodAll enc P W 0 (fun _ => true) true ts vs ds ps → DataW.TrodAll enc P W' 0 (fun b => decide (b < W.heap.size)) true ts vs ds ps
  | [], [], [], _, _, h => h
  | t :: ts, v :: vs, d :: ds, ps, hr, h => by
    have hlt := h.lt
    obtain ⟨p, q, h1, h2, rfl⟩ := h
    simp only [List.all_cons, Bool.and_eq_true, decide_eq_true_eq] at hr
    exact ⟨p, q, Below.trod hl hr.1.1 hr.1.2 h1 hb fun x hx => hlt x (by simp [hx]), trodAll_stays hl hb hr.2 h2, rfl⟩
  | [], [], _ :: _, _, _, h => h.elim
  | [], _ :: _, _, _, _, h => h.elim
  | _ :: _, [], _, _, _, h => h.elim
  | _ :: _, _ :: _, [], _, _, h => h.elim
theorem trodAll_length : ∀ {ts : List TypeId} {vs : List Value} {ds : List (DataW H)} {ps : List MemPlace} {sp : Nat → Bool}, DataW.TrodAll enc P w 0 sp true ts vs ds ps → ds.length = ts.length ∧ vs.length = ts.length
  | [], [], [], _, _, _ => ⟨rfl, rfl⟩
  | t :: ts, v :: vs, d :: ds, _, _, h => by
    obtain ⟨p, q, _, h2, _⟩ := h
    obtain ⟨a, b⟩ := trodAll_length h2
    exact ⟨by simp [a], by simp [b]⟩
  | [], [], _ :: _, _, _, h => h.elim
  | [], _ :: _, _, _, _, h => h.elim
  | _ :: _, [], _, _, _, h => h.elim
  | _ :: _, _ :: _, [], _, _, h => h.elim
theorem frame_contract {C : Checked} {f : FuncId} {fn : Func} {s : ChangeSpec} {b : TypeId} (hl : laidOutB C.prog = true) (hvars : s.vars = []) (hfn : ∀ ds : List (DataW H), ds.length = fn.params.size → s.fn H (ds ++ []) = { results := [.lit (.bool true)], args := ds })
    (hres : fn.resultTypes = #[b]) (hb : C.prog.underlying b = some .bool) (hread : (fn.params.toList.all fun t => C.prog.readableRec t && decide (t < C.prog.types.size)) = true)
    (law : ∀ (W : World) (base : Nat) (args : Array Value) (ds : List (DataW H)) (p : List MemPlace), (∀ (j : Nat) t v, fn.params[j]? = some t → args[j]? = some v → Value.okWide C.prog W .any base t v) →
      DataW.TrodAll enc C.prog W 0 (fun _ => true) true fn.params.toList args.toList ds p → (∀ (j : Nat) t d, fn.params.toList[j]? = some t → ds[j]? = some d → Wt C.prog t d) → ∃ as, Opened W args.toList as ∧ CallsOK C.prog f as [] (.b true) []) :
    ∀ (W : World) (base : Nat) (args : Array Value) (ds gs : List (DataW H)) (before : List MemPlace),
      (∀ (j : Nat) t v, fn.params[j]? = some t → args[j]? = some v → Value.okWide C.prog W .any base t v) →
      DataW.Whole enc C.prog fn.params.toList s.vars false W args.toList ds gs before →
      (DataW.weightsEach C.prog (fn.params.toList ++ s.plain.varTypes C.prog) (ds ++ gs)).all (· ≤ reachBytes) = true →
      Calls C.prog f args W fun e W' => ∃ v, e = .returned v ∧ s.post enc C.prog fn false true false false W args v W' := by
  intro W base args ds gs before hval hW hwt
  have hW' := hW
  obtain ⟨p, q, hA, hV, rfl, hfz, hnd⟩ := hW
  rw [hvars] at hV
  obtain ⟨rfl, rfl⟩ := trodVars_none hV
  have hd : ds.length = fn.params.size := by simpa using (trodAll_length hA).1
  obtain ⟨as, h1, h2⟩ := law W base args ds p hval hA fun j t d ht hd' => List.all_eq_true.2 fun n hn => List.all_eq_true.1 hwt n (DataW.weights_mem_each (j := j) (by
    rw [List.getElem?_append_left (List.getElem?_eq_some_iff.1 ht).1]; exact ht) (by rw [List.getElem?_append_left (List.getElem?_eq_some_iff.1 hd').1]; exact hd') n hn)
  obtain ⟨o1, o2⟩ := h1.get
  refine (walk_true h2 W args (by simpa using o1) fun i hi => by simpa [← Array.getElem?_toList] using o2 i hi).mono fun e W' ⟨he, bel⟩ => ?_
  subst he
  refine ⟨_, rfl, ds, [], p ++ [], [], p, [], hW', ?_, ?_, ?_, bel.frame _, fun h => by cases h⟩
  · rw [hfn ds hd, hres]
    exact trodAll_mk1 (shut_bool hb _)
  · rw [hfn ds hd]
    exact trodAll_stays hl bel hread hA
  · rw [hfn ds hd, hvars]
    rfl
end
end Go.AX
end
section
namespace Go.AX
theorem forR_eq {α σ ρ : Type} {done : σ → Option ρ} {body : (σ → Option ρ) → α → Nat → σ → Option ρ} (P : List α → Nat → σ → Prop) (F : List α → Nat → σ → Option ρ)
    (hd : ∀ i s, P [] i s → done s = F [] i s)
    (hs : ∀ (next : σ → Option ρ) x t i s, P (x :: t) i s → (∀ s, P t (i + 1) s → next s = F t (i + 1) s) → body next x i s = F (x :: t) i s) :
    ∀ (l : List α) (i : Nat) (s : σ), P l i s → forR done body l i s = F l i s
  | [], i, s, h => hd i s h
  | x :: t, i, s, h => hs _ x t i s h fun s' h' => forR_eq P F hd hs t (i + 1) s' h'
theorem whileR_eq {σ ρ : Type} {body : (σ → Option ρ) → σ → Option ρ} (P : σ → Prop) (μ : σ → Nat) (F : σ → Option ρ)
    (hs : ∀ (next : σ → Option ρ) s, P s → (∀ s', P s' → μ s' < μ s → next s' = F s') → body next s = F s) :
    ∀ (n : Nat) (s : σ), P s → μ s < n → whileR body n s = F s
  | 0, s, _, h => absurd h (Nat.not_lt_zero _)
  | n + 1, s, h, hm => hs _ s h fun s' h' hlt => whileR_eq P μ F hs n s' h' (by omega)
theorem whileR_ex {σ ρ : Type} {body : (σ → Option ρ) → σ → Option ρ} (P : σ → Prop) (μ : σ → Nat) (Q : ρ → Prop)
    (hs : ∀ (next : σ → Option ρ) s, P s → (∀ s', P s' → μ s' < μ s → ∃ r, next s' = some r ∧ Q r) → ∃ r, body next s = some r ∧ Q r) :
    ∀ (n : Nat) (s : σ), P s → μ s < n → ∃ r, whileR body n s = some r ∧ Q r
  | 0, s, _, h => absurd h (Nat.not_lt_zero _)
  | n + 1, s, h, hm => hs _ s h fun s' h' hlt => whileR_ex P μ Q hs n s' h' (by omega)
theorem whileR_exQ {σ ρ : Type} {body : (σ → Option ρ) → σ → Option ρ} (P : σ → Prop) (μ : σ → Nat) (Q : σ → ρ → Prop)
    (hs : ∀ (next : σ → Option ρ) s, P s → (∀ s', P s' → μ s' < μ s → ∃ r, next s' = some r ∧ Q s' r) → ∃ r, body next s = some r ∧ Q s r) :
    ∀ (n : Nat) (s : σ), P s → μ s < n → ∃ r, whileR body n s = some r ∧ Q s r
  | 0, s, _, h => absurd h (Nat.not_lt_zero _)
  | n + 1, s, h, hm => hs _ s h fun s' h' hlt => whileR_exQ P μ Q hs n s' h' (by omega)
theorem whileR_exR {σ ρ : Type} {body : (σ → Option ρ) → σ → Option ρ} {n : Nat} {s : σ} {Q' : ρ → Prop} (P : σ → Prop) (μ : σ → Nat) (Q : σ → ρ → Prop)
    (hs : ∀ (next : σ → Option ρ) s, P s → (∀ s', P s' → μ s' < μ s → ∃ r, next s' = some r ∧ Q s' r) → ∃ r, body next s = some r ∧ Q s r)
    (hp : P s) (hm : μ s < n) (hq : ∀ r, Q s r → Q' r) : ∃ r, whileR body n s = some r ∧ Q' r := by
  obtain ⟨r, h1, h2⟩ := whileR_exQ P μ Q hs n s hp hm
  exact ⟨r, h1, hq r h2⟩
theorem part_nat {α : Type} {l : List α} {a b : Nat} (h1 : a ≤ b) (h2 : b ≤ l.length) : part l (a : Int) (b : Int) = some ((l.drop a).take (b - a)) := by
  unfold part
  rw [if_pos (by omega)]
  simp
theorem forR_ex {α σ ρ : Type} {done : σ → Option ρ} {body : (σ → Option ρ) → α → Nat → σ → Option ρ} (P : List α → Nat → σ → Prop) (Q : ρ → Prop)
    (hd : ∀ i s, P [] i s → ∃ r, done s = some r ∧ Q r)
    (hs : ∀ (next : σ → Option ρ) x t i s, P (x :: t) i s → (∀ s, P t (i + 1) s → ∃ r, next s = some r ∧ Q r) → ∃ r, body next x i s = some r ∧ Q r) :
    ∀ (l : List α) (i : Nat) (s : σ), P l i s → ∃ r, forR done body l i s = some r ∧ Q r
  | [], i, s, h => hd i s h
  | x :: t, i, s, h => hs _ x t i s h fun s' h' => forR_ex P Q hd hs t (i + 1) s' h'
theorem joinP_ite {τ ρ : Type} (b : Prop) [Decidable b] (x y : τ) (K : τ → Option ρ) : joinP (fun k => if b then k x else k y) K = K (if b then x else y) := by
  unfold joinP; split <;> rfl
theorem joinP_id {τ ρ : Type} (x : τ) (K : τ → Option ρ) : joinP (fun k => k x) K = K x := Eq.trans rfl rfl
theorem bs_toList (l : List UInt8) : (bs l).toList = l := by rw [ByteArray.toList_eq]; simp [bs]
theorem mk_toList (a : Array UInt8) : (ByteArray.mk a).toList = a.toList := ByteArray.toList_eq _
theorem lt_fuel {n : Nat} (h : n < 18446744073709551616) : n < fuel := h
theorem apnd_some {α : Type} {b : Nat} {l m : List α} (hb : Nat.ble b 65536 = true) (h : l.length + m.length ≤ 1000000000) : apnd b l m = some (l ++ m) := by
  unfold apnd
  have hb := Nat.le_of_ble_eq_true hb
  rw [if_pos]
  refine ⟨?_, by omega⟩
  calc _ ≤ 1000000000 * 65536 := Nat.mul_le_mul h hb
    _ ≤ 2 ^ 47 := by decide
theorem apnd_big {α : Type} {b : Nat} {l m : List α} (hb : 0 < b) (h : (l.length + m.length) * b ≤ 140737488355328) : apnd b l m = some (l ++ m) := by
  unfold apnd
  have : l.length + m.length ≤ (l.length + m.length) * b := Nat.le_mul_of_pos_right _ hb
  rw [if_pos ⟨h, by omega⟩]
theorem geti_nat {α : Type} {l : List α} {i : Nat} (h : i < l.length) : geti l (i : Int) = some l[i] := by
  unfold geti
  rw [if_pos (by omega)]
  simp [h]
theorem geti_at {α : Type} (pre : List α) (x : α) (t : List α) : geti (pre ++ x :: t) (pre.length : Int) = some x := by
  rw [geti_nat (by simp)]; simp
theorem i64w_id {x : Int} (h : -9223372036854775808 ≤ x ∧ x ≤ 9223372036854775807) : i64w x = x := i64_id rfl h
theorem some_bind' {α β : Type} (a : α) (f : α → Option β) : (some a).bind f = f a := Eq.trans rfl rfl
theorem joinP_def {τ ρ : Type} (m : (τ → Option ρ) → Option ρ) (k : τ → Option ρ) : joinP m k = m k := Eq.trans rfl rfl
end Go.AX
end
section
namespace Go.AX
class Tt {ρ : Type} (m : Option ρ) : Prop where
  h : ∃ r, m = some r
def Ok {ρ : Type} (m : Option ρ) (Q : ρ → Prop) : Prop := ∃ r, m = some r ∧ Q r
theorem Ok.ret {ρ : Type} {Q : ρ → Prop} {r : ρ} (h : Q r) : Ok (some r) Q := ⟨r, rfl, h⟩
theorem Ok.of {ρ : Type} {m : Option ρ} [t : Tt m] : Ok m fun r => m = some r := by
  obtain ⟨r, h⟩ := t.h
  exact ⟨r, h, h⟩
theorem Ok.imp {ρ : Type} {m : Option ρ} {P Q : ρ → Prop} (h : Ok m P) (k : ∀ r, P r → Q r) : Ok m Q := by
  obtain ⟨r, h1, h2⟩ := h
  exact ⟨r, h1, k r h2⟩
theorem Ok.tt {ρ : Type} {m : Option ρ} {Q : ρ → Prop} (h : Ok m Q) : Tt m := by
  obtain ⟨r, h1, _⟩ := h
  exact ⟨r, h1⟩
theorem Ok.bind {α ρ : Type} {m : Option α} {f : α → Option ρ} {P : α → Prop} {Q : ρ → Prop} (h : Ok m P) (k : ∀ a, P a → Ok (f a) Q) : Ok (Option.bind m f) Q := by
  obtain ⟨a, h1, h2⟩ := h
  rw [h1]
  exact k a h2
theorem Ok.join {τ ρ : Type} {m : (τ → Option ρ) → Option ρ} {k : τ → Option ρ} {Q : ρ → Prop} (J : τ → Prop) (h1 : ∀ k', (∀ v, J v → Ok (k' v) Q) → Ok (m k') Q) (h2 : ∀ v, J v → Ok (k v) Q) : Ok (joinP m k) Q := h1 k h2
theorem Ok.forX {α σ ρ : Type} {done : σ → Option ρ} {body : (σ → Option ρ) → α → Nat → σ → Option ρ} {Q : ρ → Prop} {l : List α} {s0 : σ} (I : Nat → σ → Prop) (h0 : I 0 s0) (hd : ∀ s, I l.length s → Ok (done s) Q)
    (hs : ∀ (next : σ → Option ρ) x i s, l[i]? = some x → I i s → (∀ s', I (i + 1) s' → Ok (next s') Q) → Ok (body next x i s) Q) : Ok (forR done body l 0 s0) Q := by
  have key : ∀ (t : List α) (i : Nat) (s : σ), (∃ p, l = p ++ t ∧ p.length = i) → I i s → Ok (forR done body t i s) Q := by
    intro t
    induction t with
    | nil => intro i s ⟨p, hp, hl⟩ hi; exact hd s (by rw [hp]; simpa [hl] using hi)
    | cons x t ih =>
      intro i s ⟨p, hp, hl⟩ hi
      exact hs _ x i s (by rw [hp, ← hl]; simp) hi fun s' h' => ih (i + 1) s' ⟨p ++ [x], by simp [hp], by simp [hl]⟩ h'
  exact key l 0 s0 ⟨[], rfl, rfl⟩ h0
theorem Ok.forI {α σ ρ : Type} {done : σ → Option ρ} {body : (σ → Option ρ) → α → Nat → σ → Option ρ} {Q : ρ → Prop} {l : List α} {s0 : σ} (I : Nat → σ → Prop) (h0 : I 0 s0) (hd : ∀ s, I l.length s → Ok (done s) Q)
    (hs : ∀ (next : σ → Option ρ) x i s, i < l.length → x ∈ l → I i s → (∀ s', I (i + 1) s' → Ok (next s') Q) → Ok (body next x i s) Q) : Ok (forR done body l 0 s0) Q :=
  .forX I h0 hd fun n x i s hx => hs n x i s (List.getElem?_eq_some_iff.1 hx).1 (List.mem_of_getElem? hx)
theorem Ok.for_ {α σ ρ : Type} {done : σ → Option ρ} {body : (σ → Option ρ) → α → Nat → σ → Option ρ} {Q : ρ → Prop} {l : List α} {s0 : σ} (hd : ∀ s, Ok (done s) Q)
    (hs : ∀ (next : σ → Option ρ) x i s, i < l.length → x ∈ l → (∀ s', Ok (next s') Q) → Ok (body next x i s) Q) : Ok (forR done body l 0 s0) Q :=
  .forI (fun _ _ => True) trivial (fun s _ => hd s) fun n x i s h1 h2 _ h3 => hs n x i s h1 h2 fun s' => h3 s' trivial
theorem Ok.whileI {σ ρ : Type} {body : (σ → Option ρ) → σ → Option ρ} {n : Nat} {s : σ} {Q : ρ → Prop} (I : σ → Prop) (μ : σ → Nat) (h0 : I s) (hm : μ s < n)
    (hs : ∀ (next : σ → Option ρ) s, I s → (∀ s', I s' → μ s' < μ s → Ok (next s') Q) → Ok (body next s) Q) : Ok (whileR body n s) Q :=
  whileR_ex I μ Q (fun next s h k => hs next s h k) n s h0 hm
theorem Ok.ite {ρ : Type} {p : Prop} [Decidable p] {x y : Option ρ} {Q : ρ → Prop} (h1 : p → Ok x Q) (h2 : ¬ p → Ok y Q) : Ok (if p then x else y) Q := by
  split
  · exact h1 ‹_›
  · exact h2 ‹_›
theorem Ok.geti {α : Type} {l : List α} {i : Int} (h : 0 ≤ i ∧ i < l.length) : Ok (geti l i) fun x => x ∈ l ∧ geti l i = some x := by
  have h2 : i.toNat < l.length := by omega
  have h3 : Go.AX.geti l i = some l[i.toNat] := by
    unfold Go.AX.geti
    rw [if_pos h]
    simp [h2]
  exact ⟨_, h3, List.getElem_mem h2, h3⟩
theorem Ok.seti {α : Type} {l : List α} {i : Int} {x : α} (h : 0 ≤ i ∧ i < l.length) : Ok (seti l i x) fun l' => l' = l.set i.toNat x ∧ l'.length = l.length := by
  refine ⟨_, ?_, rfl, by simp⟩
  unfold Go.AX.seti
  rw [if_pos h]
theorem Ok.apnd {α : Type} {b : Nat} {l m : List α} (hb : Nat.ble b 65536 = true) (h : l.length + m.length ≤ 1000000000) : Ok (apnd b l m) fun l' => l' = l ++ m := ⟨_, apnd_some hb h, rfl⟩
theorem Ok.apndB {α : Type} {b : Nat} {l m : List α} (hb : 0 < b) (h : (l.length + m.length) * b ≤ 140737488355328) : Ok (Go.AX.apnd b l m) fun l2 => l2 = l ++ m := ⟨_, apnd_big hb h, rfl⟩
theorem Ok.part {α : Type} {l : List α} {a b : Int} (h : 0 ≤ a ∧ a ≤ b ∧ b ≤ l.length) : Ok (part l a b) fun l' => l' = (l.drop a.toNat).take (b.toNat - a.toNat) ∧ (l'.length : Int) = b - a := by
  refine ⟨_, ?_, rfl, by simp; omega⟩
  unfold Go.AX.part
  rw [if_pos h]
theorem Ok.chk {p : Prop} [Decidable p] (h : p) : Ok (chk p) fun _ => True := by
  refine ⟨(), ?_, trivial⟩
  unfold Go.AX.chk
  rw [if_pos h]
theorem Tt.auto {ρ : Type} {m : Option ρ} (h : Ok m fun _ => True := by
    repeat' (first
      | exact Ok.ret trivial
      | assumption
      | (refine Ok.bind Ok.of ?_; intros)
      | (refine Ok.ite ?_ ?_ <;> intros)
      | (refine Ok.join (fun _ => True) ?_ ?_ <;> intros)
      | (refine Ok.for_ ?_ ?_ <;> intros)
      | (refine Ok.bind (Ok.geti ?_) ?_ <;> intros)
      | (refine Ok.bind (Ok.chk ?_) ?_ <;> intros)
      | exact ‹∀ v, True → Ok _ _› _ trivial
      | exact ‹∀ v, Ok _ _› _
      | solve_by_elim
      | (constructor <;> first | omega | (simp_all; done) | (simp_all; omega))
      | omega
      | decide)) : Tt m := h.tt
theorem Ok.q {ρ : Type} {m : Option ρ} {Q : ρ → Prop} (h : Ok m Q := by
    repeat' (first
      | assumption
      | refine Ok.ret ?_
      | exact trivial
      | (refine Ok.bind Ok.of ?_; intros)
      | (refine Ok.ite ?_ ?_ <;> intros)
      | (refine Ok.bind (Ok.chk ?_) ?_ <;> intros)
      | (refine Ok.bind (Ok.geti ?_) ?_ <;> intros)
      | (refine Ok.bind (Ok.seti ?_) ?_ <;> intros)
      | (refine Ok.bind (Ok.apnd (by decide) ?_) ?_ <;> intros)
      | refine ‹∀ v, _ → _ → Ok _ _› _ ?_ ?_
      | refine ‹∀ v, _ → Ok _ _› _ ?_
      | exact ‹∀ v, Ok _ _› _
      | (refine Ok.join (τ := Bool) (fun _ => True) ?_ ?_ <;> intros)
      | (refine Ok.join (τ := Unit) (fun _ => True) ?_ ?_ <;> intros)
      | omega
      | solve_by_elim
      | (simp_all; done)
      | (simp_all; omega)
      | (simp only [List.length_append, List.length_cons, List.length_nil, List.length_set, decide_eq_true_eq, beq_iff_eq, bne_iff_ne, Bool.not_eq_true'] at *; (try subst_vars); (try simp only [List.length_append, List.length_cons, List.length_nil]); omega))) : Ok m Q := h
theorem Ok.pos {ρ : Type} {Q : ρ → Prop} {n : Nat} {g : (Bool → Option ρ) → Int → Option ρ} {k : Int → Option ρ} (hn : n ≤ 1000000000)
    (hg : ∀ (k' : Bool → Option ρ) (v : Int), 0 ≤ v → v ≤ n → (∀ c, (c = true → v < n) → Ok (k' c) Q) → Ok (g k' v) Q) (hk : ∀ v : Int, 0 ≤ v → v ≤ n → Ok (k v) Q) :
    Ok (joinP (fun k1 => whileR (fun next v => joinP (fun k2 => g k2 v) (fun c => if c = true then next (i64w (v + 1)) else k1 v)) fuel 0) k) Q := by
  refine .join (fun v : Int => 0 ≤ v ∧ v ≤ n) (fun k1 hk1 => ?_) fun v hv => hk v hv.1 hv.2
  refine .whileI (fun v : Int => 0 ≤ v ∧ v ≤ n) (fun v => (n - v).toNat) (by omega) (lt_fuel (by omega)) fun next v hv hnx => ?_
  refine .join (fun c => c = true → v < n) (fun k2 hk2 => hg k2 v hv.1 hv.2 hk2) fun c hc => .ite (fun h => ?_) fun _ => hk1 v hv
  have := hc h
  rw [i64w_id (by omega)]
  exact hnx _ (by omega) (by omega)
end Go.AX
end
