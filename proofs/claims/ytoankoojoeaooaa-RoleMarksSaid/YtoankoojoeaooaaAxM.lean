/-
  AX: maps.
-/
import Derived.Test.YtoankoojoeaooaaAxS
import Derived.MapKept
namespace Go.AX
open MapKept
section
variable {P : Program} {T : TT} {E : Env} {w : World} {S : Sc} {φ : Nat → Option (Nat × Nat)} {ob : Nat → Option OB}

theorem scalar_kind (hT : TabOk P T) {k : Nat} (hk : scalarK (T.get k).kind = true) (hkn : knownT T k = true) : ∃ d, P.underlying k = some d ∧ (∀ u, keyOKB (T.get k).kind u = true → IsKey d u) ∧
    ∀ (u u' : Value) (b : Bool), keyEq (T.get k).kind (.val u) (.val u') = some b → Instr.sameNow d u u' = some b ∧ (b = true → u' = u) := by
  have h := (hT.of (known_ne hkn)).kind
  cases hq : (T.get k).kind <;> simp [hq, scalarK] at hk <;> rw [hq] at h <;> simp only [KindOk] at h
  · refine ⟨_, h, fun u hu => by cases u <;> simp [keyOKB] at hu <;> simp [IsKey], fun u u' b hb => ?_⟩
    cases u <;> cases u' <;> simp [keyEq] at hb
    subst hb
    exact ⟨rfl, fun e => by simp at e; rw [e]⟩
  · rename_i kk
    refine ⟨_, h, fun u hu => by cases u <;> simp [keyOKB] at hu <;> simp [IsKey, hu], fun u u' b hb => ?_⟩
    cases u <;> cases u' <;> simp [keyEq] at hb
    obtain ⟨rfl, rfl⟩ := hb
    exact ⟨by simp [Instr.sameNow], fun e => by simp at e; rw [e]⟩
  · refine ⟨_, h, fun u hu => by cases u <;> simp [keyOKB] at hu <;> simp [IsKey], fun u u' b hb => ?_⟩
    cases u <;> cases u' <;> simp [keyEq] at hb
    subst hb
    exact ⟨rfl, fun e => by rw [(bytes_beq _ _).1 e]⟩

/-- the entries stand for the data -/
def EntsOK (S : Sc) (w : World) (es : List (D × D)) (l : List MapEntry) : Prop :=
  l.length = es.length ∧ ∀ i (hi : i < es.length), ∃ x, l[i]? = some x ∧ (∃ u, es[i].1 = .val u ∧ x.key = u ∧ u.oneCell' = true) ∧ RepD S w es[i].2 x.val

theorem EntsOK.tail {p : D × D} {es : List (D × D)} {x : MapEntry} {l : List MapEntry} (h : EntsOK S w (p :: es) (x :: l)) : (∃ u, p.1 = .val u ∧ x.key = u ∧ u.oneCell' = true) ∧ RepD S w p.2 x.val ∧ EntsOK S w es l := by
  obtain ⟨h1, h2⟩ := h
  obtain ⟨y, e, a, b⟩ := h2 0 (by simp)
  simp at e
  subst e
  refine ⟨a, b, by simpa using h1, fun i hi => ?_⟩
  obtain ⟨y, e, a, b⟩ := h2 (i + 1) (by simpa using hi)
  exact ⟨y, by simpa using e, a, b⟩

theorem get_spec {tk : TK} {d : TypeDesc} {u : Value} (hd : ∀ (u' : Value) (b : Bool), keyEq tk (.val u) (.val u') = some b → Instr.sameNow d u u' = some b ∧ (b = true → u' = u)) :
    ∀ (es : List (D × D)) (l : List MapEntry) (off : Nat) (q : Option D), EntsOK S w es l → mapGet tk (.val u) es = some q →
      (q = none ∧ Instr.findNow d u l off = some none ∧ ∀ v, mapSet tk (.val u) v es = some (es ++ [(.val u, v)])) ∨
      ∃ j x v, q = some v ∧ l[j]? = some x ∧ x.key = u ∧ j < es.length ∧ RepD S w v x.val ∧ Instr.findNow d u l off = some (some (off + j, x.val)) ∧ ∀ v, mapSet tk (.val u) v es = some (es.set j (.val u, v))
  | [], [], off, q, _, hq => by simp [mapGet] at hq; exact .inl ⟨hq.symm, rfl, fun v => rfl⟩
  | [], _ :: _, _, _, h, _ => by simp [EntsOK] at h
  | _ :: _, [], _, _, h, _ => by simp [EntsOK] at h
  | p :: es, x :: l, off, q, h, hq => by
    obtain ⟨⟨u', e1, e2, _⟩, hv, ht⟩ := h.tail
    simp only [mapGet, e1] at hq
    cases hb : keyEq tk (.val u) (.val u') with
    | none => simp [hb] at hq
    | some b =>
      obtain ⟨s1, s2⟩ := hd u' b hb
      cases b with
      | true =>
        simp only [hb, Option.some.injEq] at hq
        exact .inr ⟨0, x, p.2, hq.symm, rfl, by rw [e2]; exact s2 rfl, by simp, hv, by simp [Instr.findNow, e2, s1], fun v => by simp [mapSet, e1, hb]⟩
      | false =>
        simp only [hb] at hq
        rcases get_spec hd es l (off + 1) q ht hq with ⟨g1, g2, g3⟩ | ⟨j, y, v, g1, g2, g3, g4, g5, g6, g7⟩
        · exact .inl ⟨g1, by simp [Instr.findNow, e2, s1, g2], fun v => by simp [mapSet, e1, hb, g3]⟩
        · exact .inr ⟨j + 1, y, v, g1, by simpa using g2, g3, by simp; omega, g5, by simp [Instr.findNow, e2, s1, g6]; omega, fun v => by simp [mapSet, e1, hb, g7]⟩


theorem get_of_set {tk : TK} {x v : D} : ∀ {es zs : List (D × D)}, mapSet tk x v es = some zs → ∃ q, mapGet tk x es = some q
  | [], _, _ => ⟨none, rfl⟩
  | p :: es, zs, h => by
    simp only [mapSet] at h
    simp only [mapGet]
    cases hb : keyEq tk x p.1 with
    | none => simp [hb] at h
    | some b =>
      cases b with
      | true => exact ⟨_, rfl⟩
      | false =>
        simp only [hb, Option.map_eq_some_iff] at h
        obtain ⟨zs', h1, _⟩ := h
        exact get_of_set h1

theorem ents_obj {r k e : Nat} {es : List (D × D)} (h : ObjOK S w φ ob r (.map k e es)) : ∃ b c arr clock, φ r = some (b, c) ∧ w.heap[b]? = some (.map arr clock) ∧ (∀ o, ¬ S b o) ∧ EntsOK S w es arr.toList := by
  obtain ⟨b, c, arr, clock, h1, h2, h3, h4, h5⟩ := h
  exact ⟨b, c, arr, clock, h1, h2, h4, by simpa using h3, fun i hi => by simpa using h5 i hi⟩

/-- the zero value of a type, as data -/
theorem zeroD_rep (hT : TabOk P T) {e : Nat} (hkn : knownT T e = true) (hpos : 0 < (T.get e).size) (h1 : oneOK T e = true) : ∃ z, (zeroValue e).run P w = .ok z w ∧ RepD S w (zeroD T e) z := by
  obtain ⟨ie, z0, hie, hi1, hi2, hz0, hz1, hz2, hz3⟩ := (hT.of (known_ne hkn)).info
  refine ⟨z0, by simp [zeroValue, typeInfo, hie, hz0], ?_⟩
  unfold zeroD
  refine RepD.norm ?_
  obtain ⟨a1, a2⟩ := (hT.of (known_ne hkn)).aggz ie z0 hie hz0
  have hcell : ∀ j (hj : j < (T.get e).zero.length), ∃ u, z0.cells[j]? = some u ∧ (T.get e).zero[j].isAgg = false ∧ RepD S w (T.get e).zero[j] u := by
    intro j hj
    have hj1 : j < z0.cells.size := by omega
    have hx0 := hz3 j hj z0.cells[j] (by simp [hj1])
    obtain ⟨a1, a2⟩ := zero_rep (S := S) (w := w) hx0
    exact ⟨_, by simp [hj1], a1, a2⟩
  unfold oneOK at h1
  split
  · rename_i hc
    obtain ⟨cs, rfl⟩ := a1 hc
    refine .agg _ cs (fun i => cs.getD i undef) (by simpa [Value.cells, hz2] using hz1) (fun i hi => ?_) (fun i hi => (hcell i hi).choose_spec.2.1) fun i hi => ?_
    · have : i < cs.size := by
        have := hz1
        simp only [Value.cells] at this
        omega
      simp [this]
    · obtain ⟨u, q1, q2, q3⟩ := hcell i hi
      have q1 : cs[i]? = some u := q1
      simp only [Array.getD_eq_getD_getElem?, q1, Option.getD_some]
      exact q3
  · rename_i hc
    have h1 : Nat.beq (T.get e).size 1 = true := by
      split at h1
      · rename_i hq; exact absurd hq hc
      · exact h1
    have h1 := Nat.eq_of_beq_eq_true h1
    have hcf : (T.get e).kind.cls = some false := by
      have := known_ne hkn
      cases hq : (T.get e).kind.cls with
      | none => exact absurd hq this
      | some b => cases b with
        | true => exact absurd hq hc
        | false => rfl
    have hna := a2 hcf
    have hz : z0.cells = #[z0] := by cases z0 <;> first | rfl | exact absurd rfl (hna _)
    have hl : (T.get e).zero.length = 1 := by omega
    obtain ⟨x, hx⟩ := List.length_eq_one_iff.1 hl
    obtain ⟨u, q1, q2, q3⟩ := hcell 0 (by omega)
    rw [hz] at q1
    simp at q1
    subst q1
    simp only [hx, List.getElem_cons_zero] at q3
    rw [hx]
    exact q3

theorem lookK_sound {obl : List (Option OB)} (hT : TabOk P T) (m : Mem E w S φ (fun r => obl.getD r none)) {t : Nat} {x key : AV} {vx vk : Value} {ok : Bool} {K : AV → Prop}
    (hx : RepA S w φ (fun r => obl.getD r none) x vx) (hk : RepA S w φ (fun r => obl.getD r none) key vk) (h : lookK T t x key ok obl K) :
    ∃ out u, K out ∧ (Instr.lookup t vx vk ok).run P w = .ok u w ∧ RepA S w φ (fun r => obl.getD r none) out u ∧ Closed (fun r => obl.getD r none) out := by
  unfold lookK at h
  split at h
  · rename_i k e r kv hkind
    simp only [onlyIf_iff, Bool.and_eq_true, findO_iff] at h
    obtain ⟨⟨⟨⟨⟨⟨c0, c1⟩, c2⟩, c3⟩, c4⟩, c5⟩, o, ho, h⟩ := h
    cases o with
    | box => simp at h
    | row => simp at h
    | map k' e' es =>
      simp only at h
      obtain ⟨q, hq, v, hv, b, hb, hK⟩ := h
      obtain ⟨d, hd, hik, hkey⟩ := scalar_kind hT c1 c2
      obtain ⟨bb, c, arr, clock, h1, h2, h3, h4⟩ := ents_obj (m.obj r _ ho)
      cases hx with | mp _ b' c' hφ hb1 hb2 =>
      rw [h1] at hφ
      simp only [Option.some.injEq, Prod.mk.injEq] at hφ
      obtain ⟨rfl, rfl⟩ := hφ
      have hkv := hk.val
      subst hkv
      have hm : P.underlying t = some (.map k e) := by
        have := (hT.of (t := t) (by rw [hkind]; simp [TK.cls])).kind
        rwa [hkind] at this
      have hpos : 0 < (T.get e).size := Nat.le_of_ble_eq_true c4
      obtain ⟨z, hz, hzr⟩ := zeroD_rep (P := P) (w := w) (S := S) hT c3 hpos c5
      have hck : ∀ em, (Instr.checkKey em 10000 k vk).run P w = .ok () w := by
        intro em
        exact run_checkKey hd (hik _ c0) em 9999
      rcases get_spec (S := S) (w := w) (tk := (T.get k).kind) (d := d) (u := vk) (fun u' b => hkey vk u' b) es arr.toList 0 q h4 hq with ⟨g1, g2, _⟩ | ⟨j, y, v', g1, g2, g3, g4, g5, g6, _⟩
      · subst g1
        simp only [Option.getD_none, Option.isSome_none] at hv hb
        subst hv hb
        refine ⟨_, (if ok then .tuple #[z, .bool false] else z), hK, ?_, ?_, ?_⟩
        · unfold Instr.lookup
          simp [run_underlying hm, run_getObj_map h2, hck, run_findKey hd g2, hz, Result.andThen]
        · cases ok
          · exact .d _ _ hzr
          · exact .tup _ _ (fun i => if i = 0 then z else .bool false) rfl (fun i hi => by
              match i, hi with
              | 0, _ => rfl
              | 1, _ => rfl) fun i hi => by
              match i, hi with
              | 0, _ => exact .d _ _ hzr
              | 1, _ => exact .d _ _ (.val _ rfl)
        · cases ok
          · exact closed_d _ _
          · intro r' hr'; simp [AV.refs, AV.refs.refsL] at hr'
      · subst g1
        simp only [Option.getD_some, Option.isSome_some] at hv hb
        subst hv hb
        refine ⟨_, (if ok then .tuple #[y.val, .bool true] else y.val), hK, ?_, ?_, ?_⟩
        · unfold Instr.lookup
          simp [run_underlying hm, run_getObj_map h2, hck, run_findKey hd g6, Result.andThen]
        · cases ok
          · exact .d _ _ g5
          · exact .tup _ _ (fun i => if i = 0 then y.val else .bool true) rfl (fun i hi => by
              match i, hi with
              | 0, _ => rfl
              | 1, _ => rfl) fun i hi => by
              match i, hi with
              | 0, _ => exact .d _ _ g5
              | 1, _ => exact .d _ _ (.val _ rfl)
        · cases ok
          · exact closed_d _ _
          · intro r' hr'; simp [AV.refs, AV.refs.refsL] at hr'
  · exact h.elim

theorem EntsOK.mono {S' : Sc} {w' : World} (hk : Keeps S w S' w') {es : List (D × D)} {l : List MapEntry} (h : EntsOK S w es l) : EntsOK S' w' es l :=
  ⟨h.1, fun i hi => by obtain ⟨x, a, b, c⟩ := h.2 i hi; exact ⟨x, a, b, c.mono hk⟩⟩

theorem EntsOK.push {es : List (D × D)} {l : List MapEntry} (h : EntsOK S w es l) {u : Value} {v : D} {x : MapEntry} (hu : u.oneCell' = true) (hk : x.key = u) (hv : RepD S w v x.val) : EntsOK S w (es ++ [(.val u, v)]) (l ++ [x]) := by
  obtain ⟨h1, h2⟩ := h
  refine ⟨by simp [h1], fun i hi => ?_⟩
  by_cases hlt : i < es.length
  · obtain ⟨y, a, b, c⟩ := h2 i hlt
    exact ⟨y, by rw [List.getElem?_append_left (by omega)]; exact a, by rw [List.getElem_append_left hlt]; exact b, by rw [List.getElem_append_left hlt]; exact c⟩
  · have e : i = es.length := by simp at hi; omega
    subst e
    exact ⟨x, by rw [List.getElem?_append_right (by omega)]; simp [h1], by simp [hk, hu], by simpa using hv⟩

theorem EntsOK.set {es : List (D × D)} {l : List MapEntry} (h : EntsOK S w es l) {j : Nat} {u : Value} {v : D} {f : MapEntry → MapEntry} (hj : j < es.length) (hu : u.oneCell' = true) (hk : ∀ y, (f y).key = u) (hv : ∀ y, RepD S w v (f y).val) :
    EntsOK S w (es.set j (.val u, v)) (l.modify j f) := by
  obtain ⟨h1, h2⟩ := h
  refine ⟨by simp [h1], fun i hi => ?_⟩
  have hi' : i < es.length := by simpa using hi
  obtain ⟨y, a, b, c⟩ := h2 i hi'
  by_cases e : j = i
  · subst e
    refine ⟨f y, by rw [List.getElem?_modify]; simp [a], ?_, ?_⟩
    · simp only [List.getElem_set_self]; exact ⟨u, rfl, hk y, hu⟩
    · simp only [List.getElem_set_self]; exact hv y
  · refine ⟨y, by rw [List.getElem?_modify]; simp [a, e], ?_, ?_⟩
    · rw [List.getElem_set_ne e]; exact b
    · rw [List.getElem_set_ne e]; exact c

theorem mapSetK_sound {obl : List (Option OB)} (hT : TabOk P T) (m : Mem E w S φ (fun r => obl.getD r none)) {t : Nat} {x key v : AV} {vx vk vv : Value} {K : AV → W → Prop}
    (hx : RepA S w φ (fun r => obl.getD r none) x vx) (hk : RepA S w φ (fun r => obl.getD r none) key vk) (hv : RepA S w φ (fun r => obl.getD r none) v vv) (h : mapSetK T t x key v obl K) :
    ∃ out wr w', K out wr ∧ (∀ r o, (r, o) ∈ wr → r < obl.length) ∧ (Instr.mapUpdate t vx vk vv).run P w = .ok () w' ∧ Post E w S φ (fun r => obl.getD r none) out wr undef w' := by
  unfold mapSetK at h
  split at h
  · rename_i k e0 r kv hkind
    simp only [onlyIf_iff, Bool.and_eq_true] at h
    obtain ⟨⟨⟨c0, c1⟩, c2⟩, h⟩ := h
    obtain ⟨dv, wr, S', hK, m', k', hd', hx', hw'⟩ := toD_sound m (FrzExt.refl _) hv h
    rw [findO_iff] at hK
    obtain ⟨hne, o, ho, hK⟩ := hK
    cases o with
    | box => simp at hK
    | row => simp at hK
    | map k1 e1 es =>
      simp only at hK
      obtain ⟨zs, hzs, hK⟩ := hK
      obtain ⟨d, hd, hik, hkey⟩ := scalar_kind hT c1 c2
      have hkv := hk.val
      subst hkv
      have hm : P.underlying t = some (.map k e0) := by
        have := (hT.of (t := t) (by rw [hkind]; simp [TK.cls])).kind
        rwa [hkind] at this
      have hor : updW (fun r => obl.getD r none) wr r = some (.map k1 e1 es) := by
        rw [updW_other wr _ r fun q hq e => by
          simp only [List.all_eq_true] at hne
          have := hne q hq
          rw [e] at this
          simp [Nat.beq_refl] at this]
        exact ho
      obtain ⟨b, c, arr, clock, h1, h2, h3, h4⟩ := ents_obj (m'.obj r _ hor)
      have hvx : vx = .map (some b) := by
        cases hx with | mp _ b' c' hφ hb1 hb2 =>
        rw [h1] at hφ
        simp only [Option.some.injEq, Prod.mk.injEq] at hφ
        rw [hφ.1]
      subst hvx
      have hu : vk.oneCell' = true := by
        have := hik _ c0
        cases vk <;> first | rfl | (cases d <;> simp [IsKey] at this)
      have hrl : r < obl.length := getD_obf obl r _ ho
      obtain ⟨q, hq⟩ := get_of_set hzs
      have hlen : ∀ r' o', (r', o') ∈ wr ++ [(r, OB.map k1 e1 zs)] → r' < obl.length := by
        intro r' o' hm'
        rcases List.mem_append.1 hm' with hm' | hm'
        · obtain ⟨e', sz', es', f', q1, _⟩ := hw' r' o' hm'
          exact getD_obf obl r' _ q1
        · simp only [List.mem_singleton, Prod.mk.injEq] at hm'
          rw [hm'.1]; exact hrl
      -- what is written
      have fin : ∀ (arr' : Array MapEntry) (clock' : Nat), (∀ {S2 : Sc} {w2 : World}, Keeps S' w S2 w2 → EntsOK S2 w2 zs arr'.toList) →
          Post E w S φ (fun r => obl.getD r none) .dead (wr ++ [(r, .map k1 e1 zs)]) undef { w with heap := w.heap.setIfInBounds b (.map arr' clock') } := by
        intro arr' clock' he
        obtain ⟨s1, s2⟩ := heap_set (w := w) (o' := .map arr' clock') h2
        obtain ⟨m2, k2⟩ := m'.set r (.map k1 e1 es) (.map k1 e1 zs) { w with heap := w.heap.setIfInBounds b (.map arr' clock') } (φ r) hor (fun i hi hn => s2 i fun e => hn c (by rw [e]; exact h1)) (by simp) ⟨rfl, rfl, rfl⟩
          (fun b' c' o hb hS => by rw [h1] at hb; simp only [Option.some.injEq, Prod.mk.injEq] at hb; rw [← hb.1] at hS; exact absurd hS (h3 o)) (.inl rfl)
          (.inl ⟨upd_same _ _ _, by rw [upd_same, hor]; rfl, fun ⟨cs, hc⟩ => by simp at hc⟩) (fun r' hr' => by simp [OB.refs] at hr') (fun hk2 => by
            obtain ⟨g1, g2⟩ := he hk2.k
            exact ⟨b, c, arr', clock', by rw [upd_same]; exact h1, s1, by simpa using g1, h3, fun i hi => by simpa using g2 i hi⟩)
        exact ⟨S', _, by rw [updW_append]; exact m2, by rw [updW_append]; exact k'.trans k2, .dead _, fun r' hr' => by simp [AV.refs] at hr'⟩
      rcases get_spec (S := S') (w := w) (tk := (T.get k).kind) (d := d) (u := vk) (fun u' b => hkey vk u' b) es arr.toList 0 q h4 hq with ⟨_, g2, g3⟩ | ⟨j, y, v', _, g2, g3, g4, _, g6, g7⟩
      · rw [g3 dv] at hzs
        obtain rfl := Option.some.inj hzs
        refine ⟨_, _, _, hK, hlen, ?_, fin (arr.push { key := vk, val := vv, born := clock }) (clock + 1) fun hkp => ?_⟩
        · unfold Instr.mapUpdate
          simp [run_underlying hm, run_getObj_map h2, run_checkKey hd (hik _ c0), run_findKey hd g2, run_setObj_map _ h2, Result.andThen]
        · rw [Array.toList_push]
          exact (h4.mono hkp).push hu rfl (hd'.mono hkp)
      · rw [g7 dv] at hzs
        obtain rfl := Option.some.inj hzs
        have hj : arr[j]? = some y := by simpa using g2
        refine ⟨_, _, _, hK, hlen, ?_, fin (arr.modify j fun e => { e with key := vk, val := vv }) clock fun hkp => ?_⟩
        · unfold Instr.mapUpdate
          simp [run_underlying hm, run_getObj_map h2, run_checkKey hd (hik _ c0), run_findKey hd g6, hj, g3, run_keyThatStays (hik _ c0), run_setObj_map _ h2, Result.andThen]
        · rw [Array.toList_modify]
          exact (h4.mono hkp).set g4 hu (fun _ => rfl) fun _ => hd'.mono hkp
  · exact h.elim

theorem makeMap_sound {obl : List (Option OB)} (m : Mem E w S φ (fun r => obl.getD r none)) {t self k e : Nat} (hs1 : obl.getD self none = none) :
    ∃ w', (Instr.makeMap t none).run P w = .ok (.map (some w.heap.size)) w' ∧ Post E w S φ (fun r => obl.getD r none) (.mp self) [(self, .map k e [])] (.map (some w.heap.size)) w' := by
  refine ⟨w.alloc (.map #[] 0), rfl, ?_⟩
  obtain ⟨m2, k2⟩ := m.allocO self 0 (.map k e []) (.map #[] 0) hs1 (fun r hr => by simp [OB.refs] at hr) (fun hk2 =>
    ⟨w.heap.size, 0, #[], 0, upd_same _ _ _, (heap_alloc w _).1, rfl, fun o ho => absurd (m.bS _ _ ho) (Nat.lt_irrefl _), fun i hi => by simp at hi⟩)
  refine ⟨S, _, m2, k2, .mp self w.heap.size 0 (upd_same _ _ _) (fun e sz es frz hx => by simp [updW] at hx) (fun cs hx => by simp [updW] at hx), fun r hr => ?_⟩
  simp only [AV.refs, List.mem_singleton] at hr
  subst hr
  simp [updW]
end
end Go.AX
