/-
  AX: parts of slices; make.
-/
import Derived.Test.YtoankoojoeaooaaAx7
import Derived.Laws.MakeOwn
import Derived.Laws.DeepStrings4
namespace Go.AX
section
variable {P : Program} {T : TT} {E : Env} {w : World} {S : Sc} {φ : Nat → Option (Nat × Nat)} {ob : Nat → Option OB}

theorem sliceD_iff {sz : Nat} {d : D} {lo hi : Option AV} {K : AV → Prop} (h : sliceD sz d lo hi K) : ∃ (es : List D) (l h' : Int), d = .lst sz es ∧
    (lo = none ∧ l = 0 ∨ ∃ k, lo = some (.d (.val (.int k l)))) ∧ (hi = none ∧ h' = es.length ∨ ∃ k, hi = some (.d (.val (.int k h')))) ∧ 0 ≤ l ∧ l ≤ h' ∧ h' ≤ es.length ∧ K (.d (.lst sz ((es.drop l.toNat).take (h'.toNat - l.toNat)))) := by
  cases d with
  | lst sz' es =>
    simp only [sliceD, onlyIf_iff] at h
    obtain ⟨h1, h⟩ := h
    have h1 := Nat.eq_of_beq_eq_true h1
    subst h1
    have b : ∀ (o : Option AV) (dflt : Int) (K : Int → Prop), boundK o dflt K → ∃ i, (o = none ∧ i = dflt ∨ ∃ k, o = some (.d (.val (.int k i)))) ∧ K i := by
      intro o dflt K hk
      unfold boundK at hk
      split at hk
      · exact ⟨dflt, .inl ⟨rfl, rfl⟩, hk⟩
      · exact ⟨_, .inr ⟨_, rfl⟩, hk⟩
      · exact hk.elim
    obtain ⟨l, hl, h⟩ := b _ _ _ h
    obtain ⟨u, hu, h⟩ := b _ _ _ h
    obtain ⟨⟨c1, c2, c3⟩, ys, rfl, hK⟩ := h
    exact ⟨es, l, u, rfl, hl, hu, c1, c2, c3, hK⟩
  | _ => simp [sliceD] at h

/-- a part of a slice is a slice over a part of the row -/
theorem RepD.part {sz : Nat} {es : List D} {a : Option Addr} {n cap l h : Nat} (hr : RepD S w (.lst sz es) (.slice a n cap)) (h1 : l ≤ h) (h2 : h ≤ es.length) :
    n = es.length ∧ n ≤ cap ∧ RepD S w (.lst sz ((es.drop l).take (h - l))) (.slice (if cap = l then a else a.map (·.add (l * sz))) (h - l) (cap - l)) := by
  cases hr with
  | lst0 =>
    have : h = 0 := by simpa using h2
    subst this
    have : l = 0 := by omega
    subst this
    exact ⟨rfl, Nat.zero_le _, by simpa using RepD.lst0 _ _ _⟩
  | lst _ _ b o _ f hl hc hsz hS hn hr =>
    refine ⟨rfl, hc, ?_⟩
    by_cases e : h = l
    · subst e
      simp only [Nat.sub_self, List.take_zero]
      exact .lst0 _ _ _
    · have hne : ¬ cap = l := by omega
      rw [if_neg hne]
      have hlen : ((es.drop l).take (h - l)).length = h - l := by simp; omega
      have hget : ∀ i (hi : i < ((es.drop l).take (h - l)).length), ((es.drop l).take (h - l))[i] = es[l + i]'(by omega) := by
        intro i hi; simp
      have := RepD.lst (S := S) (w := w) sz ((es.drop l).take (h - l)) b (o + l * sz) (cap - l) (fun i j => f (l + i) j) (by omega) (by omega) (fun i hi => by rw [hget i hi]; exact hsz _ _) (fun i j hi hj => ?_) (fun i hi j hj => ?_) (fun i hi j hj => ?_)
      · rw [hlen] at this
        simpa only [Option.map_some, Addr.add_none] using this
      · rw [hlen] at hi
        have := hS (l + i) j (by omega) hj
        have e2 : o + (l + i) * sz + j = o + l * sz + i * sz + j := by rw [Nat.add_mul]; omega
        rwa [e2] at this
      · have := hget i hi
        simp only [this] at hj ⊢
        exact hn (l + i) (by omega) j hj
      · have := hget i hi
        simp only [this] at hj ⊢
        exact hr (l + i) (by omega) j hj

theorem bound_run {k : IntKind} {i : Int} {y : Nat} {c : BoundsCode} (h : 0 ≤ i ∧ i ≤ y) : (Instr.sliceBound (.int k i) y c).run P w = .ok i.toNat w := by
  unfold Instr.sliceBound
  simp [asIntOf, h.1, h.2]

/-- x[l:h] -/
theorem run_slice_part {t e : Nat} {ie : TypeInfo} (hk : P.underlying t = some (.slice e)) (hi : P.info? e = some ie) {a : Option Addr} {len cap : Nat} {lo hi' : Option Value} {l h : Nat}
    (hl : lo = none ∧ l = 0 ∨ ∃ k, lo = some (.int k (l : Int))) (hh : hi' = none ∧ h = len ∨ ∃ k, hi' = some (.int k (h : Int))) (h1 : l ≤ h) (h2 : h ≤ len) (h3 : len ≤ cap) :
    (Instr.sliceAt t (.slice a len cap) lo hi' none).run P w = .ok (.slice (if cap = l then a else a.map (·.add (l * ie.size))) (h - l) (cap - l)) w := by
  unfold Instr.sliceAt
  have hb : (Instr.sliceBounds true len cap lo hi' none).run P w = .ok (l, h, cap) w := by
    unfold Instr.sliceBounds
    rcases hl with ⟨rfl, rfl⟩ | ⟨k, rfl⟩ <;> rcases hh with ⟨rfl, rfl⟩ | ⟨k', rfl⟩
    · simp
    · simp [Sem.run_bind, bound_run (P := P) (w := w) (k := k') (c := .sliceAcap) (i := (h : Int)) (y := cap) ⟨by omega, by omega⟩]
    · simp [Sem.run_bind, bound_run (P := P) (w := w) (k := k) (c := .sliceB) (i := (l : Int)) (y := h) ⟨by omega, by omega⟩]
    · simp [Sem.run_bind, bound_run (P := P) (w := w) (k := k') (c := .sliceAcap) (i := (h : Int)) (y := cap) ⟨by omega, by omega⟩, bound_run (P := P) (w := w) (k := k) (c := .sliceB) (i := (l : Int)) (y := h) ⟨by omega, by omega⟩]
  simp [Sem.run_bind, run_underlying hk, Instr.slice, hb, sizeOf, typeInfo, hi]

theorem run_slice_str {t : Nat} (hk : P.underlying t = some .string) {s : ByteArray} {lo hi' : Option Value} {l h : Nat}
    (hl : lo = none ∧ l = 0 ∨ ∃ k, lo = some (.int k (l : Int))) (hh : hi' = none ∧ h = s.size ∨ ∃ k, hi' = some (.int k (h : Int))) (h1 : l ≤ h) (h2 : h ≤ s.size) :
    (Instr.sliceAt t (.string s) lo hi' none).run P w = .ok (.string (s.extract l h)) w := by
  unfold Instr.sliceAt
  have hb : (Instr.sliceBounds false s.size s.size lo hi' none).run P w = .ok (l, h, s.size) w := by
    unfold Instr.sliceBounds
    rcases hl with ⟨rfl, rfl⟩ | ⟨k, rfl⟩ <;> rcases hh with ⟨rfl, rfl⟩ | ⟨k', rfl⟩
    · simp
    · simp [Sem.run_bind, bound_run (P := P) (w := w) (k := k') (c := .sliceAlen) (i := (h : Int)) (y := s.size) ⟨by omega, by omega⟩]
    · simp [Sem.run_bind, bound_run (P := P) (w := w) (k := k) (c := .sliceB) (i := (l : Int)) (y := s.size) ⟨by omega, by omega⟩]
    · simp [Sem.run_bind, bound_run (P := P) (w := w) (k := k') (c := .sliceAlen) (i := (h : Int)) (y := s.size) ⟨by omega, by omega⟩, bound_run (P := P) (w := w) (k := k) (c := .sliceB) (i := (l : Int)) (y := h) ⟨by omega, by omega⟩]
  simp [Sem.run_bind, run_underlying hk, Instr.slice, hb]

theorem zero_rep {z : D} {v : Value} (h : zeroOk z v) : z.isAgg = false ∧ RepD S w z v := by
  cases z with
  | val u => obtain ⟨rfl, h2⟩ := h; exact ⟨rfl, .val _ h2⟩
  | nil sz => simp only [zeroOk] at h; subst h; exact ⟨rfl, .nil _⟩
  | _ => simp [zeroOk] at h

theorem makeK_sound {obl : List (Option OB)} (hT : TabOk P T) (m : Mem E w S φ (fun r => obl.getD r none)) {t self : Nat} {n c : AV} {vn vc : Value} {K : AV → W → Prop}
    (hn : RepA S w φ (fun r => obl.getD r none) n vn) (hc : RepA S w φ (fun r => obl.getD r none) c vc) (h : makeK T t self n c obl K) :
    ∃ out wr u w', K out wr ∧ (∀ r o, (r, o) ∈ wr → r < obl.length) ∧ (Instr.makeSlice t vn vc).run P w = .ok u w' ∧ Post E w S φ (fun r => obl.getD r none) out wr u w' := by
  unfold makeK at h
  split at h
  · rename_i e n c hk
    rw [noO_iff, onlyIf_iff, Bool.and_eq_true, Bool.and_eq_true] at h
    obtain ⟨hself, ⟨⟨hkn, hc1⟩, hs1c⟩, ⟨b1, b2, b3, b4⟩, z, hz, zs, hzs, hK⟩ := h
    have hpos : 0 < (T.get e).size := Nat.le_of_ble_eq_true hc1
    obtain ⟨hs1, hs2⟩ := noO_none hself
    have hte := hT.of (known_ne hkn)
    obtain ⟨ie, z0, hie, hi1, hi2, hz0, hz1, hz2, hz3⟩ := hte.info
    obtain rfl := hn.int; obtain rfl := hc.int
    have hrun := run_make (P := P) w t e ie z0 (kind_slice hT hk) hie hz0 .i64 .i64 n c b1 b2 (by
      rw [hi2]
      have : ((T.get e).bytes : Int) * c ≤ 65536 * 1048576 := Int.mul_le_mul (by omega) b3 (by omega) (by omega)
      omega) (by omega)
    -- the zero element
    have hzc : z.cells = (T.get e).zero.map fun x => match x with
        | .nil sz => .lst sz []
        | x => x := by
      rw [← hz]
      split
      · rfl
      · rename_i hcl
        have h1 : (T.get e).size = 1 := by
          split at hs1c
          · rename_i hq; exact absurd hq hcl
          · exact Nat.eq_of_beq_eq_true hs1c
        have hl : (T.get e).zero.length = 1 := by omega
        obtain ⟨x, hx⟩ := List.length_eq_one_iff.1 hl
        have hna : ∀ y ∈ (T.get e).zero, y.isAgg = false := by
          intro y hy
          obtain ⟨j, hj, rfl⟩ := List.getElem_of_mem hy
          have hj1 : j < z0.cells.size := by omega
          exact (zero_rep (S := S) (w := w) (hz3 j hj z0.cells[j] (by simp [hj1]))).1
        rw [hx] at hna ⊢
        have := hna x (by simp)
        cases x <;> first | rfl | simp [D.isAgg] at this
    have hzl : z.cells.length = (T.get e).size := by rw [hzc]; simp [hz2]
    have hcell : ∀ j (hj : j < z.cells.length), ∃ u, z0.cells[j]? = some u ∧ z.cells[j].isAgg = false ∧ RepD S w z.cells[j] u := by
      intro j hj
      have hj0 : j < (T.get e).zero.length := by rw [hzl] at hj; omega
      have hj1 : j < z0.cells.size := by omega
      have hx0 := hz3 j hj0 z0.cells[j] (by simp [hj1])
      refine ⟨z0.cells[j], by simp [hj1], ?_⟩
      have e1 : z.cells[j] = (match (T.get e).zero[j] with
        | .nil sz => .lst sz []
        | x => x) := by simp [hzc]
      rw [e1]
      obtain ⟨a1, a2⟩ := zero_rep (S := S) (w := w) hx0
      cases hq : (T.get e).zero[j] with
      | nil sz =>
        rw [hq] at a2
        generalize z0.cells[j] = u at a2 ⊢
        cases a2
        exact ⟨rfl, .lst0 _ _ _⟩
      | val v => rw [hq] at a1 a2; exact ⟨a1, a2⟩
      | agg cs => rw [hq] at a1; simp [D.isAgg] at a1
      | lst sz es => rw [hq] at a1 a2; exact ⟨rfl, a2⟩
    subst hzs
    have hzn : ∀ i (hi : i < (List.replicate n.toNat z).length), (List.replicate n.toNat z)[i] = z := by intro i hi; simp
    refine ⟨_, _, _, _, hK, fun r o hm => ?_, hrun, ?_⟩
    · simp only [List.mem_singleton, Prod.mk.injEq] at hm
      rw [hm.1]; exact hs2
    have hsz : (madeCells z0.cells (c.toNat * ie.size)).size = c.toNat * (T.get e).size := by rw [size_madeCells, hi1]
    have hat : ∀ i j, i < n.toNat → j < (T.get e).size → (madeCells z0.cells (c.toNat * ie.size))[i * (T.get e).size + j]? = z0.cells[j]? := by
      intro i j hi hj
      have hlt : (i + 1) * (T.get e).size ≤ c.toNat * (T.get e).size := Nat.mul_le_mul_right _ (by omega)
      rw [Nat.add_mul] at hlt
      have hlt2 : i * (T.get e).size + j < (madeCells z0.cells (c.toNat * ie.size)).size := by omega
      rw [Array.getElem?_eq_getElem hlt2]
      have hm : (i * (T.get e).size + j) % z0.cells.size = j := by rw [hz1, Nat.mul_comm, Nat.mul_add_mod, Nat.mod_eq_of_lt hj]
      have hj1 : j < z0.cells.size := by omega
      simp only [madeCells, Array.getElem_map, Array.getElem_range, hm]
      simp [hj1]
    obtain ⟨m2, k2⟩ := m.alloc self c.toNat (.row e (T.get e).size (List.replicate n.toNat z) false) (madeCells z0.cells (c.toNat * ie.size)) e hs1 (fun r hr => by simp [OB.refs] at hr) (fun hk2 => by
      refine ⟨hpos, fun i hi => by rw [hzn i hi]; exact hzl, fun i hi j hj => ?_, .inr ⟨w.heap.size, c.toNat, madeCells z0.cells (c.toNat * ie.size), fun i j => z0.cells.getD j undef, upd_same _ _ _, heap_alloc_new w _, by simp; omega, ?_, hsz, fun i j hi hj => ?_, fun i hi j hj => ?_, fun o _ ho => absurd (m.bS _ _ ho) (Nat.lt_irrefl _)⟩⟩
      · have := hzn i hi
        simp only [this] at hj ⊢
        exact (hcell j hj).choose_spec.2.1
      · simp only [maxLen]; omega
      · simp only [List.length_replicate] at hi
        rw [hat i j hi hj]
        have hj1 : j < z0.cells.size := by omega
        simp [hj1]
      · have := hzn i hi
        simp only [this] at hj ⊢
        obtain ⟨u, q1, q2, q3⟩ := hcell j hj
        have : z0.cells.getD j undef = u := by simp [q1]
        rw [this]
        exact q3.mono hk2.k)
    refine ⟨S, _, m2, k2, ?_, ?_⟩
    · refine .own self _ _ n.toNat c.toNat (some ⟨w.heap.size, 0, none⟩) rfl (by simp) (fun e2 sz2 es2 f2 hx2 => ?_) (fun cs hx2 => ?_)
      · simp only [updW, upd_same, Option.some.injEq, OB.row.injEq] at hx2
        obtain ⟨rfl, rfl, rfl, rfl⟩ := hx2
        exact ⟨by simp, fun _ => .inr ⟨_, _, upd_same _ _ _, by simp⟩⟩
      · simp [updW] at hx2
    · intro r hr
      simp only [AV.refs, List.mem_singleton] at hr
      subst hr
      simp [updW]
  · exact h.elim
end
end Go.AX
