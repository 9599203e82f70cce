/-
  AX, part 5: append, slice literals, literals of structs and arrays.
-/
import Derived.Test.YtoankoojoeaooaaAx4
import Derived.Laws.BytesArg
namespace Go.AX
section
variable {P : Program} {T : TT} {E : Env} {w : World} {S : Sc} {φ : Nat → Option (Nat × Nat)} {ob : Nat → Option OB}

theorem Mem.drew (m : Mem E w S φ ob) : Mem E w.drew S φ ob ∧ Kept w S φ ob w.drew S φ ob := by
  have hk : Kept w S φ ob w.drew S φ ob := ⟨fun _ _ h => ⟨h, rfl⟩, fun r _ => .refl φ ob r, fun _ h => h⟩
  exact ⟨⟨fun r o h => (m.obj r o h).keep hk rfl (fun _ _ _ => ⟨rfl, fun _ h => h⟩) (m.men r o h), m.inj, m.men, m.sS, m.kS, m.bS, m.nS, m.fr, m.sz, m.ow, m.os⟩, hk⟩

/-- what a slice that is read reads as -/
structure SrcV (S : Sc) (w : World) (sz : Nat) (ys : List D) (v : Value) : Prop where
  hsz : ∀ i (hi : i < ys.length), ys[i].cells.length = sz
  na : ∀ i (hi : i < ys.length) j (hj : j < ys[i].cells.length), ys[i].cells[j].isAgg = false
  v : ((∃ a c, v = .slice a 0 c) ∧ ys = []) ∨ ∃ b o cap, ∃ f : Nat → Nat → Value, v = .slice (some ⟨b, o, none⟩) ys.length cap ∧ (∀ i j, i < ys.length → j < sz → cellAt w b (o + i * sz + j) = some (f i j)) ∧
    ∀ i (hi : i < ys.length) j (hj : j < ys[i].cells.length), RepD S w ys[i].cells[j] (f i j)

theorem srcK_sound {obl : List (Option OB)} (m : Mem E w S φ (fun r => obl.getD r none)) {y : AV} {v : Value} {K : Nat → List D → Prop} (hy : RepA S w φ (fun r => obl.getD r none) y v) (h : srcK obl y K) :
    ∃ sz ys, K sz ys ∧ SrcV S w sz ys v := by
  unfold srcK at h
  split at h
  · rename_i sz es
    refine ⟨sz, es, h, ?_⟩
    cases hy with | d _ _ hy =>
    cases hy with
    | lst0 => exact ⟨fun i hi => by simp at hi, fun i hi => by simp at hi, .inl ⟨⟨_, _, rfl⟩, rfl⟩⟩
    | lst _ _ b o cap f hl hc hsz hS hn hr => exact ⟨hsz, hn, .inr ⟨b, o, cap, f, rfl, fun i j hi hj => (hS i j hi hj).2, hr⟩⟩
  · rename_i sz
    refine ⟨sz, [], h, ?_⟩
    cases hy with | d _ _ hy =>
    cases hy with
    | nil => exact ⟨fun i hi => by simp at hi, fun i hi => by simp at hi, .inl ⟨⟨_, _, rfl⟩, rfl⟩⟩
  · rename_i r n
    rw [findO_iff] at h
    obtain ⟨o, ho, h⟩ := h
    cases o with
    | box => simp at h
    | map => simp at h
    | row e sz es frz =>
      simp only at h
      refine ⟨sz, es, h.2, ?_⟩
      obtain ⟨g0, g1, g2, g3⟩ := m.obj r _ ho
      cases hy with | own _ _ _ k c a0 hv hk h1 hb =>
      obtain ⟨_, h2⟩ := h1 e sz es frz ho
      rcases h2 h.1 with ⟨a1, a2, rfl⟩ | ⟨b, cap, a1, rfl⟩
      · exact ⟨g1, g2, .inl ⟨⟨_, _, rfl⟩, List.eq_nil_of_length_eq_zero (by omega)⟩⟩
      · rcases g3 with ⟨f1, _⟩ | ⟨b', cap', vs, f, f1, f2, f3, f4, f5, f6, f7, f8⟩
        · rw [f1] at a1; simp at a1
        · rw [f1] at a1
          simp only [Option.some.injEq, Prod.mk.injEq] at a1
          obtain ⟨rfl, rfl⟩ := a1
          exact ⟨g1, g2, .inr ⟨b', 0, cap', f, by rw [h.1], fun i j hi hj => by rw [cellAt_heap f2, Nat.zero_add]; exact f6 i j hi hj, f7⟩⟩
  · exact h.elim

/-- the cells of rows of 'sz' cells, one behind the other -/
def flat (n sz : Nat) (f : Nat → Nat → Value) : List Value := (List.range (n * sz)).map fun k => f (k / sz) (k % sz)

theorem flat_length (n sz : Nat) (f : Nat → Nat → Value) : (flat n sz f).length = n * sz := by simp [flat]

theorem flat_get {n sz : Nat} (f : Nat → Nat → Value) {i j : Nat} (hi : i < n) (hj : j < sz) : (flat n sz f)[i * sz + j]? = some (f i j) := by
  have : i * sz + j < n * sz := by
    have : (i + 1) * sz ≤ n * sz := Nat.mul_le_mul_right _ hi
    rw [Nat.add_mul] at this
    omega
  have hsz : 0 < sz := by omega
  have h1 : (i * sz + j) / sz = i := by
    rw [Nat.mul_comm, Nat.mul_add_div hsz, Nat.div_eq_of_lt hj, Nat.add_zero]
  have h2 : (i * sz + j) % sz = j := by
    rw [Nat.mul_comm, Nat.mul_add_mod, Nat.mod_eq_of_lt hj]
  simp [flat, this, h1, h2]

theorem flat_cell {n sz : Nat} {f : Nat → Nat → Value} {g : Nat → Option Value} (h : ∀ i j, i < n → j < sz → g (i * sz + j) = some (f i j)) : ∀ k v, (flat n sz f)[k]? = some v → g k = some v := by
  intro k v hv
  obtain ⟨hk, rfl⟩ := List.getElem?_eq_some_iff.1 hv
  rw [flat_length] at hk
  have hsz : 0 < sz := by
    rcases Nat.eq_zero_or_pos sz with h | h
    · subst h; simp at hk
    · exact h
  have h1 : k / sz < n := Nat.div_lt_of_lt_mul (by rw [Nat.mul_comm]; exact hk)
  have h2 : k % sz < sz := Nat.mod_lt _ hsz
  have h3 : k / sz * sz + k % sz = k := by rw [Nat.mul_comm]; exact Nat.div_add_mod k sz
  have := h _ _ h1 h2
  rw [h3] at this
  simp [flat, this]

theorem SrcV.one {sz n : Nat} {ys : List D} {f : Nat → Nat → Value} (hn : n = ys.length) (h1 : ∀ i (hi : i < ys.length), ys[i].cells.length = sz) (h2 : ∀ i (hi : i < ys.length) j (hj : j < ys[i].cells.length), ys[i].cells[j].isAgg = false)
    (h3 : ∀ i (hi : i < ys.length) j (hj : j < ys[i].cells.length), RepD S w ys[i].cells[j] (f i j)) : ∀ u ∈ flat n sz f, u.oneCell' = true := by
  intro u hu
  obtain ⟨k, hk, rfl⟩ := List.getElem_of_mem hu
  rw [flat_length] at hk
  have hsz : 0 < sz := by
    rcases Nat.eq_zero_or_pos sz with h | h
    · subst h; simp at hk
    · exact h
  have g1 : k / sz < ys.length := by rw [← hn]; exact Nat.div_lt_of_lt_mul (by rw [Nat.mul_comm]; exact hk)
  have g2 : k % sz < ys[k / sz].cells.length := by rw [h1]; exact Nat.mod_lt _ hsz
  have := (h3 _ g1 _ g2).one (h2 _ g1 _ g2)
  simpa [flat] using this

theorem append_get {es ys : List D} {sz : Nat} (h1 : ∀ i (hi : i < es.length), es[i].cells.length = sz) (h2 : ∀ i (hi : i < ys.length), ys[i].cells.length = sz) :
    ∀ i (hi : i < (es ++ ys).length), (es ++ ys)[i].cells.length = sz := by
  intro i hi
  rw [List.getElem_append]
  split
  · exact h1 _ _
  · exact h2 _ _

theorem run_append_none {t ty e : Nat} (ht : P.underlying t = some (.slice e)) {i : TypeInfo} (hi : P.info? e = some i) (a : Option Addr) (n c : Nat) (hn : n ≤ c) {a2 : Option Addr} {c2 : Nat} :
    (Builtin.append_ #[t, t] ty #[.slice a n c, .slice a2 0 c2]).run P w = .ok (.slice a n c) w := by
  cases a <;> cases a2 <;> simp [Builtin.append_, run_underlying ht, sizeOf, typeInfo, hi, Builtin.lenOf, hn, Builtin.firstCells, storeCells, loadCells, loadCellsFrom]

theorem run_append_zero {t ty e : Nat} (ht : P.underlying t = some (.slice e)) {i : TypeInfo} (hi : P.info? e = some i) (a : Addr) (c : Nat) :
    (Builtin.append_ #[t, t] ty #[.slice none 0 0, .slice (some a) 0 c]).run P w = .ok (.slice none 0 0) w := by
  simp [Builtin.append_, run_underlying ht, sizeOf, typeInfo, hi, Builtin.lenOf, Builtin.firstCells, loadCells, loadCellsFrom]

theorem append_core (m : Mem E w S φ ob) {t ty e : Nat} {tie : TI} (hte : TiOk P e tie) (ht : P.underlying t = some (.slice e)) {r sz : Nat} {es ys : List D} {frz : Bool} (ho : ob r = some (.row e sz es frz)) {vx vy : Value}
    (hv : OwnV φ r es.length vx) (hy : SrcV S w sz ys vy) (hsz : tie.size = sz) (hb1 : (es.length + ys.length) * tie.bytes ≤ 2 ^ 47) (hb2 : es.length + ys.length ≤ 2 ^ 47) :
    ∃ u w' φ', (Builtin.append_ #[t, t] ty #[vx, vy]).run P w = .ok u w' ∧ Mem E w' S φ' (upd ob r (some (.row e sz (es ++ ys) frz))) ∧ Kept w S φ ob w' S φ' (upd ob r (some (.row e sz (es ++ ys) frz))) ∧ OwnV φ' r (es ++ ys).length u := by
  obtain ⟨i, z, hi, hi1, hi2, hz, hz1, hz2, _⟩ := hte.info
  rw [hsz] at hi1
  obtain ⟨g0, g1, g2, g3⟩ := m.obj r _ ho
  have hr0 : ob r ≠ none := by simp [ho]
  have same : ∀ (h : ys = []), upd ob r (some (.row e sz (es ++ ys) frz)) = ob := by
    intro h; subst h
    funext k
    by_cases hk : k = r
    · subst hk; simp [ho]
    · exact upd_other _ _ _ _ hk
  have h46 : (2 : Nat) ^ 47 = 140737488355328 := by decide
  rw [h46] at hb1 hb2
  have hbytes : (es.length + ys.length) * i.bytes ≤ 140737488355328 := by rw [hi2]; omega
  have hmax : ∀ (c : Nat), grownCap w (es.length + ys.length) c e ≤ maxLen := fun c => grownCap_le_maxLen w _ c e (by simp only [maxLen]; omega)
  -- a new block
  have fresh : ∀ (xs : List Value) (c : Nat) (hc : c < es.length + ys.length) (hcl : es.length ≤ c) (f g : Nat → Nat → Value) (hxs : xs = flat es.length sz g)
      (hg : ∀ i (hi : i < es.length) j (hj : j < es[i].cells.length), RepD S w es[i].cells[j] (g i j))
      (hf : ∀ i (hi : i < ys.length) j (hj : j < ys[i].cells.length), RepD S w ys[i].cells[j] (f i j)),
      ∃ φ', Mem E (w.drew.alloc (.cells (xs.toArray ++ (flat ys.length sz f).toArray ++ Builtin.zeroCells z.cells (grownCap w (es.length + ys.length) c e - (es.length + ys.length))) e)) S φ' (upd ob r (some (.row e sz (es ++ ys) frz))) ∧
        Kept w S φ ob (w.drew.alloc (.cells (xs.toArray ++ (flat ys.length sz f).toArray ++ Builtin.zeroCells z.cells (grownCap w (es.length + ys.length) c e - (es.length + ys.length))) e)) S φ' (upd ob r (some (.row e sz (es ++ ys) frz))) ∧
        OwnV φ' r (es ++ ys).length (.slice (some ⟨w.heap.size, 0, none⟩) (es.length + ys.length) (grownCap w (es.length + ys.length) c e)) := by
    intro xs c hc hcl f g hxs hg hf
    have hge := grownCap_ge w (es.length + ys.length) c e
    obtain ⟨md, kd⟩ := m.drew
    generalize hw' : w.drew.alloc (.cells (xs.toArray ++ (flat ys.length sz f).toArray ++ Builtin.zeroCells z.cells (grownCap w (es.length + ys.length) c e - (es.length + ys.length))) e) = w'
    have hblk : w'.heap[w.heap.size]? = some (.cells (xs.toArray ++ (flat ys.length sz f).toArray ++ Builtin.zeroCells z.cells (grownCap w (es.length + ys.length) c e - (es.length + ys.length))) e (0, 0)) := by
      rw [← hw']; exact heap_alloc_new w.drew _
    have hold : ∀ k, k < w.heap.size → w'.heap[k]? = w.heap[k]? := fun k hk => by rw [← hw']; exact heap_alloc_of_lt w.drew _ hk
    have hsize : w'.heap.size = w.heap.size + 1 := by rw [← hw']; simp
    have hlen : ((xs.toArray ++ (flat ys.length sz f).toArray ++ Builtin.zeroCells z.cells (grownCap w (es.length + ys.length) c e - (es.length + ys.length)))).size = grownCap w (es.length + ys.length) c e * sz := by
      simp only [Array.size_append, List.size_toArray, size_zeroCells, hz1, hxs, flat_length, hsz]
      rw [← Nat.add_mul, ← Nat.add_mul]
      congr 1
      omega
    obtain ⟨m', k'⟩ := m.set r _ (.row e sz (es ++ ys) frz) w' (some (w.heap.size, grownCap w (es.length + ys.length) c e)) ho (fun k hk _ => hold k hk) (by omega) (by rw [← hw']; exact ⟨rfl, rfl, rfl⟩)
      (fun b' c' o' hb' hS => cellAt_of_heap (hold b' (m.bS b' o' hS)) o') (.inr ⟨_, _, rfl, Nat.le_refl _, by omega⟩)
      (.inr ⟨e, sz, es, frz, es ++ ys, frz, ho, upd_same _ _ _, by simp, fun hh => by
        have hy0 : ys = [] := by simpa using hh
        subst hy0
        simp at hc
        omega⟩) (fun r' hr' => by simp [OB.refs] at hr') (fun hk => by
        refine ⟨g0, append_get g1 hy.hsz, fun i hi j hj => ?_, .inr ⟨w.heap.size, grownCap w (es.length + ys.length) c e, _, fun i j => if i < es.length then g i j else f (i - es.length) j, upd_same _ _ _, hblk, by simpa using hge, hmax c, hlen, fun i j hi hj => ?_, fun i hi j hj => ?_, fun o' _ ho' => ?_⟩⟩
        · have e1 : (es ++ ys)[i] = if h : i < es.length then es[i] else ys[i - es.length]'(by simp at hi; omega) := List.getElem_append ..
          simp only [e1] at hj ⊢
          split at hj
          · rename_i h; simp only [h, dif_pos]; exact g2 i h j hj
          · rename_i h; simp only [h, dif_neg, not_false_eq_true]; exact hy.na _ _ j hj
        · simp only [List.length_append] at hi
          rw [Array.getElem?_append_left (by
            simp only [Array.size_append, List.size_toArray, hxs, flat_length, ← Nat.add_mul]
            have : (i + 1) * sz ≤ (es.length + ys.length) * sz := Nat.mul_le_mul_right _ hi
            rw [Nat.add_mul] at this
            omega)]
          by_cases h : i < es.length
          · simp only [if_pos h]
            rw [Array.getElem?_append_left (by
              simp only [List.size_toArray, hxs, flat_length]
              have : (i + 1) * sz ≤ es.length * sz := Nat.mul_le_mul_right _ h
              rw [Nat.add_mul] at this
              omega)]
            simp only [hxs]
            simpa using flat_get g h hj
          · have hle : es.length * sz ≤ i * sz := Nat.mul_le_mul_right _ (by omega)
            simp only [if_neg h]
            rw [Array.getElem?_append_right (by simp only [List.size_toArray, hxs, flat_length]; omega)]
            simp only [List.size_toArray, hxs, flat_length]
            have e2 : i * sz + j - es.length * sz = (i - es.length) * sz + j := by rw [Nat.sub_mul]; omega
            rw [e2]
            simpa using flat_get f (show i - es.length < ys.length by omega) hj
        · have e1 : (es ++ ys)[i] = if h : i < es.length then es[i] else ys[i - es.length]'(by simp at hi; omega) := List.getElem_append ..
          simp only [e1] at hj ⊢
          split at hj
          · rename_i h; simp only [h, dif_pos, if_true]; exact (hg i h j hj).mono hk.k
          · rename_i h; simp only [h, dif_neg, not_false_eq_true, if_false]; exact (hf _ _ j hj).mono hk.k
        · exact absurd (m.bS _ _ ho') (Nat.lt_irrefl _))
    exact ⟨_, m', k', .inr ⟨_, _, upd_same _ _ _, by simp⟩⟩
  rcases hv with ⟨a1, a2, rfl⟩ | ⟨b1, cap1, a1, rfl⟩
  · -- a nil slice
    have hes : es = [] := List.eq_nil_of_length_eq_zero a2
    rcases hy.v with ⟨⟨a2, c2, rfl⟩, hys⟩ | ⟨b, o, cap, f, rfl, hc, hr⟩
    · refine ⟨_, w, φ, run_append_none ht hi none 0 0 (Nat.le_refl _), ?_⟩
      rw [same hys]
      exact ⟨m, .refl w S φ ob, .inl ⟨a1, by simp [hes, hys], rfl⟩⟩
    · by_cases hys : ys = []
      · refine ⟨.slice none 0 0, w, φ, ?_, ?_⟩
        · rw [hys]; exact run_append_zero ht hi _ _
        · rw [same hys]
          exact ⟨m, .refl w S φ ob, .inl ⟨a1, by simp [hes, hys], rfl⟩⟩
      · have hpos : 0 < ys.length := List.length_pos_iff.2 hys
        have hrun := run_append_nil (P := P) w t ty e i z ht hi hz ⟨b, o, none⟩ ys.length cap (flat ys.length sz f) (by rw [flat_length, hi1])
          (flat_cell (g := fun k => w.cell? ((⟨b, o, none⟩ : Addr).add k)) fun i j hi hj => by rw [Addr.add_none]; have := hc i j hi hj; rw [Nat.add_assoc] at this; exact this) hpos (by omega) (by rw [a2, Nat.zero_add] at hbytes; omega)
        obtain ⟨φ', h1, h2, h3⟩ := fresh [] 0 (by omega) (by omega) f (fun _ _ => undef) (by simp [hes, flat]) (fun i hi => by simp [hes] at hi) hr
        simp only [a2, Nat.zero_add] at h1 h2 h3
        exact ⟨_, _, φ', hrun, by simpa using h1, by simpa using h2, h3⟩
  · rcases g3 with ⟨f1, _⟩ | ⟨b', cap', cur, g, f1, f2, f3, f4, f5, f6, f7, f8⟩
    · rw [a1] at f1; simp at f1
    · rw [a1] at f1
      simp only [Option.some.injEq, Prod.mk.injEq] at f1
      obtain ⟨rfl, rfl⟩ := f1
      rcases hy.v with ⟨⟨a2, c2, rfl⟩, hys⟩ | ⟨b, o, cap, f, rfl, hc, hr⟩
      · refine ⟨_, w, φ, run_append_none ht hi _ _ _ f3, ?_⟩
        rw [same hys]
        exact ⟨m, .refl w S φ ob, .inr ⟨_, _, a1, by simp [hys]⟩⟩
      · have hnews : ∀ j v, (flat ys.length sz f)[j]? = some v → w.cell? ((⟨b, o, none⟩ : Addr).add j) = some v :=
          flat_cell (g := fun k => w.cell? ((⟨b, o, none⟩ : Addr).add k)) fun i j hi hj => by rw [Addr.add_none]; have := hc i j hi hj; rw [Nat.add_assoc] at this; exact this
        by_cases hroom : es.length + ys.length ≤ cap1
        · have hle : (es.length + ys.length) * sz ≤ cap1 * sz := Nat.mul_le_mul_right _ hroom
          rw [Nat.add_mul] at hle
          have hrun := run_append_room (P := P) w t ty e i ht hi b1 es.length cap1 cur f2 ⟨b, o, none⟩ ys.length cap (flat ys.length sz f) (by rw [flat_length, hi1]) hnews (SrcV.one rfl hy.hsz hy.na hr) hroom (by rw [hi1, flat_length]; omega)
          rw [hi1] at hrun
          have hov : (cur.toList.take (es.length * sz) ++ flat ys.length sz f ++ cur.toList.drop (es.length * sz + (flat ys.length sz f).length)) = overL cur.toList (es.length * sz) (flat ys.length sz f) := rfl
          rw [hov] at hrun
          have hov2 : es.length * sz + (flat ys.length sz f).length ≤ cur.toList.length := by rw [flat_length]; simp; omega
          obtain ⟨q1, q2, q3⟩ := setRow_kept w b1 (overL cur.toList (es.length * sz) (flat ys.length sz f)).toArray
          have hh := setRow_heap w b1 cur (overL cur.toList (es.length * sz) (flat ys.length sz f)).toArray e (0, 0) f2
          have hget : ∀ k, (overL cur.toList (es.length * sz) (flat ys.length sz f)).toArray[k]? = if es.length * sz ≤ k ∧ k < es.length * sz + ys.length * sz then (flat ys.length sz f)[k - es.length * sz]? else cur[k]? := by
            intro k
            have := overL_get cur.toList (es.length * sz) (flat ys.length sz f) hov2 k
            rw [flat_length] at this
            simpa using this
          have hS8 : ∀ o', S b1 o' → o' < es.length * sz := by
            intro o' ho'
            refine Nat.lt_of_not_le fun hge => f8 o' ?_ ho'
            cases frz <;> simp
            exact hge
          obtain ⟨m', k'⟩ := m.set r _ (.row e sz (es ++ ys) frz) (w.setRow b1 (overL cur.toList (es.length * sz) (flat ys.length sz f)).toArray) (φ r) ho (fun k hk hne => q1 k fun e => hne cap1 (by rw [e]; exact a1)) (by omega) q3
            (fun b2 c2 o2 hb2 hS2 => by
              rw [a1] at hb2
              simp only [Option.some.injEq, Prod.mk.injEq] at hb2
              obtain ⟨rfl, rfl⟩ := hb2
              rw [cellAt_heap hh, cellAt_heap f2, hget, if_neg (by have := hS8 o2 hS2; omega)]) (.inl rfl)
            (.inr ⟨e, sz, es, frz, es ++ ys, frz, ho, upd_same _ _ _, by simp, fun _ => upd_same _ _ _⟩) (fun r' hr' => by simp [OB.refs] at hr') (fun hk => by
              refine ⟨g0, append_get g1 hy.hsz, fun i hi j hj => ?_, .inr ⟨b1, cap1, _, fun i j => if i < es.length then g i j else f (i - es.length) j, by rw [upd_same]; exact a1, hh, by simpa using hroom, f4, ?_, fun i j hi hj => ?_, fun i hi j hj => ?_, fun o' ho1 ho' => ?_⟩⟩
              · have e1 : (es ++ ys)[i] = if h : i < es.length then es[i] else ys[i - es.length]'(by simp at hi; omega) := List.getElem_append ..
                simp only [e1] at hj ⊢
                split at hj
                · rename_i h; simp only [h, dif_pos]; exact g2 i h j hj
                · rename_i h; simp only [h, dif_neg, not_false_eq_true]; exact hy.na _ _ j hj
              · rw [List.size_toArray, overL_length _ _ _ hov2]; simpa using f5
              · simp only [List.length_append] at hi
                rw [hget]
                by_cases h : i < es.length
                · have : (i + 1) * sz ≤ es.length * sz := Nat.mul_le_mul_right _ h
                  rw [Nat.add_mul] at this
                  simp only [if_pos h]
                  rw [if_neg (by omega)]
                  exact f6 i j h hj
                · have hle2 : es.length * sz ≤ i * sz := Nat.mul_le_mul_right _ (by omega)
                  have hle3 : (i + 1) * sz ≤ (es.length + ys.length) * sz := Nat.mul_le_mul_right _ hi
                  rw [Nat.add_mul, Nat.add_mul] at hle3
                  simp only [if_neg h]
                  rw [if_pos (by omega)]
                  have e2 : i * sz + j - es.length * sz = (i - es.length) * sz + j := by rw [Nat.sub_mul]; omega
                  rw [e2]
                  exact flat_get f (show i - es.length < ys.length by omega) hj
              · have e1 : (es ++ ys)[i] = if h : i < es.length then es[i] else ys[i - es.length]'(by simp at hi; omega) := List.getElem_append ..
                simp only [e1] at hj ⊢
                split at hj
                · rename_i h; simp only [h, dif_pos, if_true]; exact (f7 i h j hj).mono hk.k
                · rename_i h; simp only [h, dif_neg, not_false_eq_true, if_false]; exact (hr _ _ j hj).mono hk.k
              · refine f8 o' ?_ ho'
                cases frz with
                | false => simp
                | true =>
                  simp only [if_true, List.length_append, Nat.add_mul] at ho1 ⊢
                  omega)
          have hu : upd φ r (φ r) = φ := by funext i; by_cases hi : i = r <;> simp [upd, hi]
          rw [hu] at m' k'
          exact ⟨_, _, φ, hrun, m', k', .inr ⟨_, _, a1, by simp⟩⟩
        · have holds : ∀ j v, (flat es.length sz g)[j]? = some v → w.cell? ((⟨b1, 0, none⟩ : Addr).add j) = some v :=
            flat_cell (g := fun k => w.cell? ((⟨b1, 0, none⟩ : Addr).add k)) fun i j hi hj => by
              rw [Addr.add_none, Nat.zero_add]
              have := f6 i j hi hj
              rw [← cellAt_heap f2] at this
              exact this
          have hrun := run_append_grow (P := P) w t ty e i z ht hi hz ⟨b1, 0, none⟩ es.length cap1 (flat es.length sz g) (by rw [flat_length, hi1]) holds ⟨b, o, none⟩ ys.length cap (flat ys.length sz f) (by rw [flat_length, hi1]) hnews (by omega) (by omega) (growslice_fits (by omega) hbytes)
          obtain ⟨φ', h1, h2, h3⟩ := fresh (flat es.length sz g) cap1 (by omega) f3 f g rfl f7 hr
          exact ⟨_, _, φ', hrun, h1, h2, h3⟩

/-! ### Conversions -/
theorem bytes_of_nums (l : List UInt8) : strOfNums (l.map fun c => (c.toNat : Int)) = ⟨l.toArray⟩ := by
  have : (strOfNums (l.map fun c => (c.toNat : Int))).data.toList = l := by
    rw [strOfNums_data, List.map_map]
    conv => rhs; rw [← List.map_id l]
    refine List.map_congr_left fun c _ => ?_
    simp
  cases h : strOfNums (l.map fun c => (c.toNat : Int)) with
  | mk d =>
    rw [h] at this
    simp only at this
    congr 1
    exact Array.toList_inj.1 (by simpa using this)

theorem convK_sound {obl : List (Option OB)} (hT : TabOk P T) (m : Mem E w S φ (fun r => obl.getD r none)) {src dst : Nat} {x : AV} {vx : Value} {K : AV → Prop} (hx : RepA S w φ (fun r => obl.getD r none) x vx) (h : convK T src dst x obl K) :
    ScalarOut K ((convert src dst vx).run P w) w := by
  unfold convK at h
  rw [onlyIf_iff] at h
  obtain ⟨hsrc, h⟩ := h
  have hsc : (T.get src).kind.cls ≠ none := fun hc => by simp [hc] at hsrc
  have hts := hT.of hsc
  obtain ⟨ds, hds⟩ : ∃ d, P.underlying src = some d := by
    cases hc : (T.get src).kind.cls with
    | none => exact absurd hc hsc
    | some q => cases q with
      | true => obtain ⟨d, hd, _⟩ := hts.kind.row hc; exact ⟨d, hd⟩
      | false => obtain ⟨d, hd, _⟩ := hts.kind.plain hc; exact ⟨d, hd⟩
  have hcl : (T.get dst).kind.cls ≠ none := by
    intro hc
    cases hk : (T.get dst).kind <;> simp [hk, TK.cls] at hc
    simp [hk] at h
  have hti := (hT.of hcl).kind
  split at h
  · rename_i k _ n hk
    rw [hk] at hti
    obtain rfl := hx.int
    obtain ⟨r, rfl, hK⟩ := h
    refine ⟨_, rfl, hK, ?_⟩
    simp only [KindOk] at hti
    simp [convert, run_underlying hds, run_underlying hti, Conv.intToInt]
  · rename_i s hk
    rw [hk] at hti
    obtain rfl := hx.str
    refine ⟨_, rfl, h, ?_⟩
    simp only [KindOk] at hti
    simp only [convert, Sem.run_bind, run_underlying hds, run_underlying hti, Result.andThen_ok]
    cases ds <;> rfl
  · rename_i hk _
    rw [hk] at hti
    simp only [KindOk] at hti
    split at h
    · rename_i e hks
      have hsk := hts.kind
      rw [hks] at hsk
      simp only [KindOk] at hsk
      split at h
      · rename_i hke
        have hec : (T.get e).kind.cls ≠ none := by rw [hke]; simp [TK.cls]
        have hek := (hT.of hec).kind
        rw [hke] at hek
        simp only [KindOk] at hek
        rw [onlyIf_iff] at h
        obtain ⟨_, h⟩ := h
        obtain ⟨sz, ys, hK, hsv⟩ := srcK_sound m hx h
        rw [onlyIf_iff] at hK
        obtain ⟨hsz, l, hl, hK⟩ := hK
        have hsz1 : sz = 1 := Nat.eq_of_beq_eq_true hsz
        subst hsz1 hl
        refine ⟨_, rfl, hK, ?_⟩
        rcases hsv.v with ⟨⟨a2, c2, rfl⟩, h0⟩ | ⟨b, o, cap, f, rfl, hc, hr⟩
        · have : l = [] := by simpa using h0
          subst this
          cases a2 with
          | none =>
            rw [run_convert_bytes_nil w src e hsk hek 0 c2 dst hti]
            rfl
          | some a2 =>
            rw [run_convert_bytes_string w src dst e _ 0 c2 hsk hek hti]
            simp [Conv.bytesToString, loadCells, loadCellsFrom]
            rfl
        · rw [run_convert_bytes_arg w src e hsk hek b o _ cap (l.map fun c => (c.toNat : Int)) (by simp) (fun i hi => ?_) dst hti, bytes_of_nums]
          have hi' : i < (l.map fun c => (D.u c.toNat : D)).length := hi
          have h1 := hc i 0 hi' (by omega)
          have h2 := hr i hi' 0 (by simp [D.cells])
          simp only [Nat.mul_one, Nat.add_zero] at h1
          have hi'' : i < l.length := by simpa using hi'
          simp only [List.getElem_map, D.cells, List.getElem_cons_zero] at h2
          have h3 : w.cell? ⟨b, o + i, none⟩ = some (f i 0) := h1
          rw [h3]
          generalize f i 0 = u at h2 ⊢
          cases h2 with | val _ _ => simp [hi'']
      · exact h.elim
    · exact h.elim
  · exact h.elim

/-! ### Addresses, parts -/
theorem struct_field {t i o s ft : Nat} {fs : List (Nat × Nat × Nat)} (h : KindOk P t (.struct fs)) (hi : fs[i]? = some (o, s, ft)) :
    ∃ F f, P.underlying t = some (.struct F) ∧ F[i]? = some f ∧ f.offset = o ∧ f.type = ft ∧ (P.info? f.type).map (·.size) = some s := by
  obtain ⟨_, _, F, h1, h2, _⟩ := h
  have := congrArg (fun l => l[i]?) h2
  simp only [List.getElem?_map, hi, Option.map_some] at this
  cases hf : F[i]? with
  | none => simp [hf] at this
  | some f =>
    simp [hf] at this
    exact ⟨F, f, h1, hf, this.1, this.2.2, by simpa using this.2.1⟩

theorem run_fieldAt {t i o s ft : Nat} {fs : List (Nat × Nat × Nat)} (h : KindOk P t (.struct fs)) (hi : fs[i]? = some (o, s, ft)) (hs : 0 < s) (b off : Nat) :
    (Instr.fieldAt t (.pointer (some ⟨b, off, none⟩)) i).run P w = .ok (.pointer (some ⟨b, off + o, none⟩)) w := by
  obtain ⟨F, f, h1, h2, h3, h4, h5⟩ := struct_field h hi
  cases hq : P.info? f.type with
  | none => simp [hq] at h5
  | some inf =>
    have hsz : inf.size = s := by simpa [hq] using h5
    have hne : ¬ s = 0 := by omega
    simp [Instr.fieldAt, run_underlying h1, h2, Instr.sureAddr, fieldPlace, sizeOf, typeInfo, hq, hsz, hne, h3, Addr.add_none]

theorem fieldOff_sound (hT : TabOk P T) {t i : Nat} {K : Nat → Nat → Nat → Prop} (h : fieldOff T t i K) : ∃ o s ft fs, K o s ft ∧ KindOk P t (.struct fs) ∧ fs[i]? = some (o, s, ft) ∧ 0 < s := by
  unfold fieldOff at h
  split at h
  · rename_i fs hk
    have hcl : (T.get t).kind.cls ≠ none := by rw [hk]; simp [TK.cls]
    have hkind := (hT.of hcl).kind
    rw [hk] at hkind
    split at h
    · rename_i o s ft hi
      split at h
      · exact h.elim
      · rename_i s'
        exact ⟨o, s' + 1, ft, fs, h, hkind, hi, Nat.succ_pos _⟩
    · exact h.elim
  · exact h.elim

theorem run_indexAt_ok {t e : Nat} (ht : P.underlying t = some (.slice e)) {i : TypeInfo} (hi : P.info? e = some i) (b o n c : Nat) (k : IntKind) (j : Int) (h : 0 ≤ j ∧ j < n) :
    (Instr.indexAt t (.slice (some ⟨b, o, none⟩) n c) (.int k j)).run P w = .ok (.pointer (some ⟨b, o + j.toNat * i.size, none⟩)) w := by
  simp [Instr.indexAt, run_underlying ht, asIntOf, h, sizeOf, typeInfo, hi, Addr.add_none]

theorem run_indexAt_arr {t e m : Nat} (ht : P.underlying t = some (.array m e)) {i : TypeInfo} (hi : P.info? e = some i) (b o : Nat) (k : IntKind) (j : Int) (h : 0 ≤ j ∧ j < m) :
    (Instr.indexAt t (.pointer (some ⟨b, o, none⟩)) (.int k j)).run P w = .ok (.pointer (some ⟨b, o + j.toNat * i.size, none⟩)) w := by
  simp [Instr.indexAt, run_underlying ht, asIntOf, Instr.sureAddr, h, sizeOf, typeInfo, hi, Addr.add_none]

theorem known_ne {t : Nat} (h : knownT T t = true) : (T.get t).kind.cls ≠ none := by
  intro hc; simp [knownT, hc] at h

theorem kind_slice (hT : TabOk P T) {t e : Nat} (h : (T.get t).kind = .slice e) : P.underlying t = some (.slice e) := by
  have := (hT.of (t := t) (by rw [h]; simp [TK.cls])).kind
  rwa [h] at this
theorem kind_arr (hT : TabOk P T) {t n e : Nat} (h : (T.get t).kind = .arr n e) : P.underlying t = some (.array n e) := by
  have := (hT.of (t := t) (by rw [h]; simp [TK.cls])).kind
  rwa [h] at this

theorem indexAddrK_sound {obl : List (Option OB)} (hT : TabOk P T) {t : Nat} {x y : AV} {vx vy : Value} {K : AV → Prop} (hx : RepA S w φ (fun r => obl.getD r none) x vx)
    (hcx : Closed (fun r => obl.getD r none) x) (hy : RepA S w φ (fun r => obl.getD r none) y vy) (h : indexAddrK T t x y obl K) :
    ∃ out u, K out ∧ (Instr.indexAt t vx vy).run P w = .ok u w ∧ RepA S w φ (fun r => obl.getD r none) out u ∧ Closed (fun r => obl.getD r none) out := by
  unfold indexAddrK at h
  split at h
  · obtain rfl := hy.int
    rename_i k i
    split at h
    · rename_i e sz es hk
      simp only [onlyIf_iff] at h
      obtain ⟨hkn, hsz, hb, v, hv, hvl, hK⟩ := h
      have hte := hT.of (known_ne hkn)
      obtain ⟨inf, z, hinf, hi1, _⟩ := hte.info
      have hsz' : sz = (T.get e).size := Nat.eq_of_beq_eq_true hsz
      cases hx with | d _ _ hx =>
      cases hx with
      | lst0 => simp at hb; omega
      | lst _ _ b o cap f hl hc hsz2 hS hn hr =>
        have hlt : i.toNat < es.length := by omega
        have hve : v = es[i.toNat] := by rw [← hv]; simp [hlt]
        subst hve
        refine ⟨_, _, hK, run_indexAt_ok (kind_slice hT hk) hinf b o _ cap k i hb, ?_, fun r hr => by simp [AV.refs] at hr⟩
        rw [hi1, ← hsz']
        exact .eref _ b _ (f i.toNat) (fun j hj => hS i.toNat j hlt (by rw [hsz2] at hj; exact hj)) (fun j hj => hn _ hlt j hj) fun j hj => hr _ hlt j hj
    · rename_i e r n hk
      rw [findO_iff] at h
      obtain ⟨o, ho, h⟩ := h
      cases o with
      | box cs =>
        simp only [onlyIf_iff] at h
        obtain ⟨hkn, hsz, rfl, hK⟩ := h
        have hte := hT.of (known_ne hkn)
        obtain ⟨inf, z, hinf, hi1, _⟩ := hte.info
        cases hx with | own _ _ _ kk c a0 hv hkn h1 hbx =>
        obtain ⟨rfl, b, c', a1, hv2⟩ := hbx cs ho
        rw [hv2]
        refine ⟨_, _, hK, run_indexAt_ok (kind_slice hT hk) hinf b 0 1 1 k 0 (by omega), ?_, fun r' hr' => hcx r' (by simpa [AV.refs] using hr')⟩
        have e0 : (0 : Nat) + (0 : Int).toNat * inf.size = 0 := by simp
        rw [e0]
        refine .ref r 0 b c' a1 fun e2 sz2 es2 frz2 hx2 => ?_
        rw [ho] at hx2
        simp at hx2
      | map => simp at h
      | row e' sz es frz =>
        simp only [onlyIf_iff] at h
        obtain ⟨hkn, hsz, hn, hb, hK⟩ := h
        have hte := hT.of (known_ne hkn)
        obtain ⟨inf, z, hinf, hi1, _⟩ := hte.info
        have hsz' : sz = (T.get e).size := Nat.eq_of_beq_eq_true hsz
        cases hx with | own _ _ _ kk c a0 hv hkn h1 hbx =>
        rcases (h1 e' sz es frz ho).2 hn with ⟨a1, a2, rfl⟩ | ⟨b, cap, a1, rfl⟩
        · omega
        · refine ⟨_, _, hK, run_indexAt_ok (kind_slice hT hk) hinf b 0 n cap k i (by omega), ?_, fun r' hr' => hcx r' (by simpa [AV.refs] using hr')⟩
          rw [Nat.zero_add, hi1, ← hsz']
          refine .rref r n i.toNat 0 _ (fun e2 sz2 es2 frz2 hx2 => ?_) (fun cs hx2 => by rw [ho] at hx2; simp at hx2) ⟨_, rfl⟩
          rw [ho] at hx2
          simp only [Option.some.injEq, OB.row.injEq] at hx2
          obtain ⟨rfl, rfl, rfl, rfl⟩ := hx2
          exact ⟨by omega, fun _ => ⟨by omega, b, cap, a1, rfl⟩⟩
    · rename_i n e r off hk
      simp only [onlyIf_iff] at h
      obtain ⟨hkn, _, hb, hK⟩ := h
      have hte := hT.of (known_ne hkn)
      obtain ⟨inf, z, hinf, hi1, _⟩ := hte.info
      cases hx with | ref _ _ b c hφ hbx =>
      refine ⟨_, _, hK, run_indexAt_arr (kind_arr hT hk) hinf b off k i hb, ?_, fun r' hr' => hcx r' (by simpa [AV.refs] using hr')⟩
      rw [hi1]
      exact .ref r _ b c hφ hbx
    · exact h.elim
  · exact h.elim

theorem aggCells_sound {x : AV} {vx : Value} {K : List AV → Prop} (hx : RepA S w φ ob x vx) (hc : Closed ob x) (h : aggCells x K) :
    ∃ cs vs, K cs ∧ vx = .agg vs ∧ vs.size = cs.length ∧ (∀ i (hi : i < cs.length), ∃ u, vs[i]? = some u ∧ cs[i].one = true ∧ RepA S w φ ob cs[i] u) ∧ ∀ c ∈ cs, Closed ob c := by
  unfold aggCells at h
  split at h
  · rename_i cs
    have hm : ∀ (cs : List D) (K : List AV → Prop), mapK (fun c K => K (AV.d c)) cs K ↔ K (cs.map .d) := by
      intro cs
      induction cs with
      | nil => intro K; simp [mapK]
      | cons c cs ih => intro K; simp [mapK, ih]
    rw [hm] at h
    cases hx with | d _ _ hx =>
    cases hx with | agg _ vs f hs hf hn hr =>
    refine ⟨_, vs, h, rfl, by simpa using hs, fun i hi => ⟨f i, hf i (by simpa using hi), ?_, ?_⟩, fun c hm => ?_⟩
    · simpa [AV.one] using hn i (by simpa using hi)
    · simpa using RepA.d _ _ (hr i (by simpa using hi))
    · obtain ⟨y, _, rfl⟩ := List.mem_map.1 hm
      exact closed_d ob y
  · rename_i cs
    cases hx with | agg _ vs f hs hf hn hr =>
    refine ⟨cs, vs, h, rfl, hs, fun i hi => ⟨f i, hf i hi, hn i hi, hr i hi⟩, fun c hm r hr' => ?_⟩
    obtain ⟨j, hj, rfl⟩ := List.getElem_of_mem hm
    exact hc r (AV.refs_mem cs j hj r hr')
  · exact h.elim

theorem partK_sound (hT : TabOk P T) {t off : Nat} {cs : List AV} {vs : Array Value} {K : AV → Prop} (hs : vs.size = cs.length) (hr : ∀ i (hi : i < cs.length), ∃ u, vs[i]? = some u ∧ cs[i].one = true ∧ RepA S w φ ob cs[i] u)
    (hc : ∀ c ∈ cs, Closed ob c) (h : partK T t cs off K) : ∃ out u, K out ∧ (part t vs off).run P w = .ok u w ∧ RepA S w φ ob out u ∧ Closed ob out := by
  unfold partK at h
  cases hcl : (T.get t).kind.cls with
  | none => simp [hcl] at h
  | some q =>
    have hti := hT.of (t := t) (by rw [hcl]; simp)
    cases q with
    | true =>
      simp only [hcl, dropK_iff, onlyIf_iff, takeK_iff, aggOf_iff, Nat.ble_eq, List.length_drop] at h
      refine ⟨_, _, h.2, run_part_row hti hcl, ?_, closed_aggF fun c hm => hc c (List.mem_of_mem_drop (List.mem_of_mem_take hm))⟩
      refine rep_aggF (by simp [hs]; omega) fun i hi => ?_
      simp only [List.length_take, List.length_drop] at hi
      obtain ⟨u, h1, h2, h3⟩ := hr (off + i) (by omega)
      refine ⟨u, ?_, ?_, ?_⟩
      · rw [Array.getElem?_extract, if_pos (by omega)]; exact h1
      · simpa [List.getElem_take, List.getElem_drop] using h2
      · simpa [List.getElem_take, List.getElem_drop] using h3
    | false =>
      simp only [hcl] at h
      cases hg : cs[off]? with
      | none => simp [hg] at h
      | some x =>
        simp only [hg, force_iff] at h
        obtain ⟨p1, p2⟩ := List.getElem?_eq_some_iff.1 hg
        obtain ⟨d, hu, hd⟩ := hti.kind.plain hcl
        obtain ⟨u, h1, h2, h3⟩ := hr off p1
        exact ⟨x, u, h, run_part_plain hu hd h1, p2 ▸ h3, hc x (List.mem_of_getElem? hg)⟩

theorem fieldK_sound (hT : TabOk P T) {t i : Nat} {x : AV} {vx : Value} {K : AV → Prop} (hx : RepA S w φ ob x vx) (hc : Closed ob x) (h : fieldK T t i x K) :
    ∃ out u, K out ∧ (Instr.field t vx i).run P w = .ok u w ∧ RepA S w φ ob out u ∧ Closed ob out := by
  unfold fieldK at h
  split at h
  · rename_i fs hk
    have hkind := (hT.of (t := t) (by rw [hk]; simp [TK.cls])).kind
    rw [hk] at hkind
    split at h
    · rename_i o s ft hi
      obtain ⟨cs, vs, hK, rfl, hs, hr, hcl⟩ := aggCells_sound hx hc h
      obtain ⟨F, f, h1, h2, h3, h4, h5⟩ := struct_field hkind hi
      obtain ⟨out, u, g1, g2, g3, g4⟩ := partK_sound hT hs hr hcl hK
      refine ⟨out, u, g1, ?_, g3, g4⟩
      simp only [Instr.field, Sem.run_bind, run_underlying h1, Result.andThen_ok, h2, asAgg, Sem.run_pure, h3, h4, g2]
    · exact h.elim
  · exact h.elim

theorem indexK_sound (hT : TabOk P T) {t : Nat} {x y : AV} {vx vy : Value} {K : AV → Prop} (hx : RepA S w φ ob x vx) (hc : Closed ob x) (hy : RepA S w φ ob y vy) (h : indexK T t x y K) :
    ∃ out u, K out ∧ (Instr.index t vx vy).run P w = .ok u w ∧ RepA S w φ ob out u ∧ Closed ob out := by
  unfold indexK at h
  split at h
  · obtain rfl := hy.int
    rename_i k i
    split at h
    · rename_i s hk
      have hkind := (hT.of (t := t) (by rw [hk]; simp [TK.cls])).kind
      rw [hk] at hkind
      simp only [KindOk] at hkind
      obtain rfl := hx.str
      obtain ⟨hb, c, hcc, hK⟩ := h
      refine ⟨_, .int .u8 c.toNat, hK, ?_, .d _ _ (.val _ rfl), closed_d _ _⟩
      have hlt : i.toNat < s.size := by omega
      have : s[i.toNat]? = some c := by
        have h1 : s.toList.getD i.toNat 0 = s[i.toNat] := by
          rw [ByteArray.toList_eq]
          have hl : i.toNat < s.data.toList.length := by rw [Array.length_toList]; exact hlt
          rw [List.getD_eq_getElem?_getD, List.getElem?_eq_getElem hl]
          rfl
        rw [← hcc, h1]
        exact getElem?_pos s i.toNat hlt
      simp only [Instr.index, asIntOf, Sem.run_bind, Sem.run_pure, Result.andThen_ok, run_underlying hkind, if_pos hb.1, this]
    · rename_i n e hk
      obtain ⟨cs, vs, hK, rfl, hs, hr, hcl⟩ := aggCells_sound hx hc h
      obtain ⟨hb, hK⟩ := hK
      split at hK
      · rename_i hce
        obtain ⟨a, ha, hK⟩ := hK
        rw [force_iff] at hK
        have hte := hT.of (t := e) (by rw [hce]; simp)
        obtain ⟨d, hu, hd⟩ := hte.kind.plain hce
        obtain ⟨inf, z, hinf, hi1, _⟩ := hte.info
        obtain ⟨p1, p2⟩ := List.getElem?_eq_some_iff.1 ha
        obtain ⟨u, h1, h2, h3⟩ := hr _ p1
        refine ⟨a, u, hK, ?_, p2 ▸ h3, hcl a (List.mem_of_getElem? ha)⟩
        have e1 : (sizeOf e).run P w = .ok (T.get e).size w := by simp [sizeOf, typeInfo, hinf, hi1]
        have e2 := run_part_plain (w := w) hu hd h1
        have e3 := run_underlying (kind_arr hT hk) w
        simp only [Instr.index, asIntOf, Sem.run_bind, Sem.run_pure, Result.andThen_ok, e3, if_pos hb, e1, e2]
      · exact hK.elim
    · exact h.elim
  · exact h.elim
end
end Go.AX
