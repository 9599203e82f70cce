/-
  AX, part 6: literals of structs, arrays and slices.
-/
import Derived.Test.YtoankoojoeaooaaAx5
namespace Go.AX
section
variable {P : Program} {T : TT} {E : Env} {w : World} {S : Sc} {φ : Nat → Option (Nat × Nat)} {ob : Nat → Option OB}

/-- one part of a literal laid into its cells -/
theorem fill_one (cells : Array Value) (off : Nat) (v : Value) (h : off + v.cells.size ≤ cells.size) :
    v.cells.zipIdx.foldl (fun cs (c, j) => cs.setIfInBounds (off + j) c) cells = (overL cells.toList off v.cells.toList).toArray := by
  have hg := Great.foldl_set off v.cells.toList 0 cells
  have e : v.cells.zipIdx.foldl (fun cs (c, j) => cs.setIfInBounds (off + j) c) cells = (v.cells.toList.zipIdx 0).foldl (fun cs (x : Value × Nat) => cs.setIfInBounds (off + x.2) x.1) cells := by
    rw [← Array.foldl_toList, Array.toList_zipIdx]
  rw [e]
  apply Array.ext_getElem?
  intro k
  rw [hg.2 k, Nat.add_zero]
  have ho := overL_get cells.toList off v.cells.toList (by simpa using h) k
  simp only [Array.length_toList, List.getElem?_toArray, Array.getElem?_toList] at ho ⊢
  rw [ho]
  by_cases hin : off ≤ k ∧ k < off + v.cells.size
  · rw [if_pos hin, if_pos ⟨hin.1, hin.2, by omega⟩]
  · rw [if_neg hin, if_neg (fun h => hin ⟨h.1, h.2.1⟩)]

/-- a list of cells stands for an array of values -/
def RepL (S : Sc) (w : World) (φ : Nat → Option (Nat × Nat)) (ob : Nat → Option OB) (cs : List AV) (vs : Array Value) : Prop :=
  vs.size = cs.length ∧ ∀ i (hi : i < cs.length), ∃ u, vs[i]? = some u ∧ cs[i].one = true ∧ RepA S w φ ob cs[i] u

theorem RepL.over {cs xs : List AV} {vs us : Array Value} (h : RepL S w φ ob cs vs) (k : RepL S w φ ob xs us) {off : Nat} (hle : off + xs.length ≤ cs.length) :
    RepL S w φ ob (overL cs off xs) (overL vs.toList off us.toList).toArray := by
  have h1 : off + us.toList.length ≤ vs.toList.length := by simp [h.1, k.1]; omega
  refine ⟨by rw [List.size_toArray, overL_length _ _ _ h1, overL_length _ _ _ hle]; simp [h.1], fun i hi => ?_⟩
  have e1 := overL_get cs off xs hle i
  have e2 := overL_get vs.toList off us.toList h1 i
  rw [overL_length _ _ _ hle] at hi
  have hi2 : i < (overL cs off xs).length := by rw [overL_length _ _ _ hle]; exact hi
  rw [List.getElem?_eq_getElem hi2] at e1
  simp only [Array.length_toList, k.1, Array.getElem?_toList] at e2
  by_cases hin : off ≤ i ∧ i < off + xs.length
  · rw [if_pos hin, List.getElem?_eq_getElem (by omega)] at e1
    rw [if_pos hin] at e2
    obtain ⟨u, g1, g2, g3⟩ := k.2 (i - off) (by omega)
    refine ⟨u, by rw [List.getElem?_toArray, e2]; exact g1, ?_, ?_⟩
    · rw [Option.some.inj e1]; exact g2
    · rw [Option.some.inj e1]; exact g3
  · rw [if_neg hin, List.getElem?_eq_getElem hi] at e1
    rw [if_neg hin] at e2
    obtain ⟨u, g1, g2, g3⟩ := h.2 i hi
    refine ⟨u, by rw [List.getElem?_toArray, e2]; exact g1, ?_, ?_⟩
    · rw [Option.some.inj e1]; exact g2
    · rw [Option.some.inj e1]; exact g3

theorem closed_over {cs xs : List AV} {off : Nat} (h : ∀ c ∈ cs, Closed ob c) (k : ∀ c ∈ xs, Closed ob c) : ∀ c ∈ overL cs off xs, Closed ob c := by
  intro c hm
  simp only [overL, List.mem_append] at hm
  rcases hm with (hm | hm) | hm
  · exact h c (List.mem_of_mem_take hm)
  · exact k c hm
  · exact h c (List.mem_of_mem_drop hm)

inductive All2 {α β : Type} (R : α → β → Prop) : List α → List β → Prop
  | nil : All2 R [] []
  | cons {a : α} {b : β} {l : List α} {k : List β} (h : R a b) (hs : All2 R l k) : All2 R (a :: l) (b :: k)

theorem All2.imp {α β : Type} {R R' : α → β → Prop} {l : List α} {k : List β} (h : All2 R l k) (f : ∀ a b, R a b → R' a b) : All2 R' l k := by
  induction h with
  | nil => exact .nil
  | cons h _ ih => exact .cons (f _ _ h) ih

/-- the operands of a literal -/
def PartsOK (S : Sc) (w : World) (φ : Nat → Option (Nat × Nat)) (ob : Nat → Option OB) (ps : List (Nat × AV)) (vs : List (Nat × Value)) : Prop :=
  All2 (fun p q => p.1 = q.1 ∧ RepA S w φ ob p.2 q.2 ∧ Closed ob p.2) ps vs

theorem fill_sound {place : Nat → Option (Nat × Nat)} : ∀ {ps : List (Nat × AV)} {vs : List (Nat × Value)} (_ : PartsOK S w φ ob ps vs) {cs : List AV} {cells : Array Value} {K : List AV → Prop} (_ : RepL S w φ ob cs cells)
    (_ : ∀ c ∈ cs, Closed ob c) (_ : buildK.go place ps cs K), ∃ cs' cells', K cs' ∧ Instr.fill place cells vs = some cells' ∧ RepL S w φ ob cs' cells' ∧ ∀ c ∈ cs', Closed ob c
  | [], [], _, cs, cells, K, hr, hc, h => ⟨cs, cells, h, rfl, hr, hc⟩
  | (i, v) :: ps, (j, u) :: vs, hp, cs, cells, K, hr, hc, h => by
    cases hp with | cons h1 h2 =>
    obtain ⟨hij, hv, hcv⟩ := h1
    simp only at hij hv hcv
    subst hij
    simp only [buildK.go] at h
    cases hpl : place i with
    | none => simp [hpl] at h
    | some q =>
      obtain ⟨off, size⟩ := q
      simp only [hpl, cellsK_iff, onlyIf_iff, overK_iff] at h
      obtain ⟨l, hl, hsz, hle, h⟩ := h
      have hsz' : l.length = size := Nat.eq_of_beq_eq_true hsz
      obtain ⟨k1, k2⟩ := rep_cells hv hl
      have hkl : RepL S w φ ob l u.cells := ⟨k1, k2⟩
      have hle' : off + u.cells.size ≤ cells.size := by rw [k1, hr.1]; exact hle
      obtain ⟨cs', cells', g1, g2, g3, g4⟩ := fill_sound h2 (hr.over hkl hle) (closed_over (off := off) hc (closed_cells hcv hl)) h
      refine ⟨cs', cells', g1, ?_, g3, g4⟩
      rw [Instr.fill]
      simp only [hpl]
      rw [if_neg (by simp [k1, hsz']; rw [k1, hsz'] at hle'; omega), fill_one _ _ _ hle']
      exact g2
  | [], _ :: _, hp, _, _, _, _, _, _ => by cases hp
  | _ :: _, [], hp, _, _, _, _, _, _ => by cases hp

theorem zero_repL {t : Nat} (hT : TabOk P T) (hc : (T.get t).kind.cls ≠ none) {i : TypeInfo} {z : Value} (hi : P.info? t = some i) (hz : i.zero = some z) : RepL S w φ ob ((T.get t).zero.map .d) z.cells ∧ ∀ c ∈ (T.get t).zero.map AV.d, Closed ob c := by
  obtain ⟨h1, _, h3⟩ := zero_cells (hT.of hc) hi hz S w φ ob
  refine ⟨⟨h1, h3⟩, fun c hm => ?_⟩
  obtain ⟨x, _, rfl⟩ := List.mem_map.1 hm
  exact closed_d ob x

theorem buildK_sound (hT : TabOk P T) {t : Nat} {ps : List (Nat × AV)} {vs : Array (Nat × Value)} {K : AV → Prop} (hp : PartsOK S w φ ob ps vs.toList) (h : buildK T t ps K) :
    ∃ out u, K out ∧ (Instr.build t vs).run P w = .ok u w ∧ RepA S w φ ob out u ∧ Closed ob out := by
  unfold buildK at h
  split at h
  · rename_i fs hk
    have hcl : (T.get t).kind.cls ≠ none := by rw [hk]; simp [TK.cls]
    have hti := hT.of hcl
    obtain ⟨i, z, hi, h1, h2, hz, h4, h5, _⟩ := hti.info
    obtain ⟨hr, hc⟩ := zero_repL (S := S) (w := w) (φ := φ) (ob := ob) hT hcl hi hz
    obtain ⟨cs', cells', g1, g2, g3, g4⟩ := fill_sound hp hr hc h
    rw [aggOf_iff] at g1
    refine ⟨_, .agg cells', g1, ?_, rep_aggF g3.1 g3.2, closed_aggF g4⟩
    refine run_build w t vs cells' ?_
    have hkind := hti.kind
    rw [hk] at hkind
    obtain ⟨_, _, F, hu, hF, _⟩ := hkind
    have hplaces : F.toList.mapM (fun f => (P.info? f.type).map fun i => (f.offset, i.size)) = some (fs.map fun x => (x.1, x.2.1)) := by
      clear g2 g1 h hu hk
      generalize F.toList = F' at hF
      induction F' generalizing fs with
      | nil => cases fs with
        | nil => rfl
        | cons => simp at hF
      | cons f F' ih =>
        cases fs with
        | nil => simp at hF
        | cons x fs =>
          simp only [List.map_cons, List.cons.injEq, Prod.mk.injEq] at hF
          obtain ⟨⟨a1, a2, a3⟩, a4⟩ := hF
          have := ih fs a4
          cases hq : P.info? f.type with
          | none => simp [hq] at a2
          | some inf =>
            simp [hq] at a2
            simp [List.mapM_cons, hq, this, a1, a2]
    unfold Program.built
    simp only [hi, hu, hz, hplaces]
    have hpl : (fun x => (fs.map fun x => (x.1, x.2.1)).toArray[x]?) = (fun (i : Nat) => match (fs[i]? : Option (Nat × Nat × Nat)) with
      | some (o, s, _) => some (o, s)
      | none => none) := by
      funext k
      simp only [List.getElem?_toArray, List.getElem?_map]
      cases fs[k]? <;> rfl
    rw [hpl]
    exact g2
  · rename_i n e hk
    have hcl : (T.get t).kind.cls ≠ none := by rw [hk]; simp [TK.cls]
    have hti := hT.of hcl
    rw [onlyIf_iff] at h
    obtain ⟨hkn, h⟩ := h
    have hte := hT.of (known_ne hkn)
    obtain ⟨i, z, hi, h1, h2, hz, h4, h5, _⟩ := hti.info
    obtain ⟨ie, ze, hie, he1, _⟩ := hte.info
    obtain ⟨hr, hc⟩ := zero_repL (S := S) (w := w) (φ := φ) (ob := ob) hT hcl hi hz
    obtain ⟨cs', cells', g1, g2, g3, g4⟩ := fill_sound hp hr hc h
    rw [aggOf_iff] at g1
    refine ⟨_, .agg cells', g1, ?_, rep_aggF g3.1 g3.2, closed_aggF g4⟩
    refine run_build w t vs cells' ?_
    unfold Program.built
    simp only [hi, kind_arr hT hk, hz, hie]
    -- the model's places have no bound
    have key : ∀ (vs : List (Nat × Value)) (c c' : Array Value), Instr.fill (fun i => match Nat.blt i n with
        | true => some (i * (T.get e).size, (T.get e).size)
        | false => none) c vs = some c' → Instr.fill (fun i => some (i * ie.size, ie.size)) c vs = some c' := by
      intro vs
      induction vs with
      | nil => intro c c' h; exact h
      | cons v vs ih =>
        intro c c' h
        obtain ⟨j, v⟩ := v
        rw [Instr.fill] at h ⊢
        cases hb : Nat.blt j n with
        | false => simp [hb] at h
        | true =>
          simp only [hb] at h
          rw [he1]
          split at h
          · simp at h
          · rename_i hne
            simp only []
            rw [if_neg hne]
            have := ih _ _ h
            rw [he1] at this
            exact this
    exact key _ _ _ g2
  · exact h.elim

theorem upd_upd (f : Nat → Option OB) (r : Nat) (x y : Option OB) : upd (upd f r x) r y = upd f r y := by
  funext i
  by_cases h : i = r <;> simp [upd, h]

theorem updW_append (ob : Nat → Option OB) (a b : W) : updW ob (a ++ b) = updW (updW ob a) b := by
  induction a generalizing ob with
  | nil => rfl
  | cons x a ih => obtain ⟨r, o⟩ := x; simp [updW, ih]

/-- the elements of a slice literal -/
theorem elems_sound {obl : List (Option OB)} {sz : Nat} : ∀ {ps : List (Nat × AV)} {vs : List (Nat × Value)} {i : Nat} {S : Sc} {ob : Nat → Option OB} {K : List D → W → Prop} (_ : Mem E w S φ ob) (_ : FrzExt (fun r => obl.getD r none) ob)
    (_ : All2 (fun p q => p.1 = q.1 ∧ RepA S w φ ob p.2 q.2 ∧ Closed (fun r => obl.getD r none) p.2) ps vs) (_ : buildRowK.elems obl sz i ps K),
    ∃ es wr S', K es wr ∧ Mem E w S' φ (updW ob wr) ∧ Kept w S φ ob w S' φ (updW ob wr) ∧ FrzExt (fun r => obl.getD r none) (updW ob wr) ∧ FrzW obl wr ∧ es.length = vs.length ∧
      vs = ((vs.map (·.2)).zipIdx i).map (fun x => (x.2, x.1)) ∧ (∀ j (hj : j < es.length), es[j].cells.length = sz) ∧ ∀ j (hj : j < es.length) (hj' : j < vs.length), RepD S' w es[j] vs[j].2
  | [], [], i, S, ob, K, m, hx, _, h => ⟨[], [], S, h, m, .refl w S φ ob, hx, fun _ _ hm => by simp at hm, rfl, rfl, fun j hj => by simp at hj, fun j hj => by simp at hj⟩
  | (j, v) :: ps, (j', u) :: vs, i, S, ob, K, m, hx, hp, h => by
    cases hp with | cons h1 h2 =>
    obtain ⟨hij, hv, hcv⟩ := h1
    simp only at hij hv hcv
    subst hij
    simp only [buildRowK.elems] at h
    cases hb : Nat.beq i j with
    | false => simp [hb] at h
    | true =>
      have hji : i = j := Nat.eq_of_beq_eq_true hb
      subst hji
      simp only [hb] at h
      obtain ⟨x, wr, S1, hK, m1, k1, hd, hx1, hw1⟩ := toD_sound m hx hv h
      rw [onlyIf_iff] at hK
      obtain ⟨hsz, hK⟩ := hK
      have hp1 : All2 (fun (p : Nat × AV) (q : Nat × Value) => p.1 = q.1 ∧ RepA S1 w φ (updW ob wr) p.2 q.2 ∧ Closed (fun r => obl.getD r none) p.2) ps vs := by
        refine h2.imp fun p q hpq => ⟨hpq.1, k1.rep (fun r hr => ?_) hpq.2.1, hpq.2.2⟩
        have h3 := hpq.2.2 r hr
        rcases hx r with e1 | ⟨e, sz', es, f, e1, e2⟩
        · rw [e1]; exact h3
        · rw [e2]; simp
      obtain ⟨es, wr2, S2, g1, g2, g3, g4, g5, g6, g7, g8, g9⟩ := elems_sound m1 hx1 hp1 hK
      refine ⟨x :: es, wr ++ wr2, S2, g1, by rw [updW_append]; exact g2, by rw [updW_append]; exact k1.trans g3, by rw [updW_append]; exact g4, fun r o hm => ?_, by simp [g6], ?_, fun k hk => ?_, fun k hk hk' => ?_⟩
      · rcases List.mem_append.1 hm with hm | hm
        · exact hw1 r o hm
        · exact g5 r o hm
      · simp only [List.map_cons, List.zipIdx_cons]
        rw [← g7]
      · cases k with
        | zero => exact Nat.eq_of_beq_eq_true hsz
        | succ k => exact g8 k (by simpa using hk)
      · cases k with
        | zero => exact hd.mono g3.k
        | succ k => exact g9 k (by simpa using hk) (by simpa using hk')
  | [], _ :: _, _, _, _, _, _, _, hp, _ => by cases hp
  | _ :: _, [], _, _, _, _, _, _, hp, _ => by cases hp

theorem noO_none {obl : List (Option OB)} {r : Nat} (h : obl[r]? = some none) : obl.getD r none = none ∧ r < obl.length := by
  obtain ⟨h1, h2⟩ := List.getElem?_eq_some_iff.1 h
  exact ⟨by simp [h], h1⟩

theorem FrzExt.none {ob ob' : Nat → Option OB} (h : FrzExt ob ob') {r : Nat} (hr : ob r = Option.none) : ob' r = Option.none := by
  rcases h r with e | ⟨e, sz, es, f, e1, _⟩
  · rw [e, hr]
  · rw [hr] at e1; simp at e1

theorem run_buildSlice_zero {t e : Nat} (hu : P.underlying t = some (.slice e)) {ie : TypeInfo} (hie : P.info? e = some ie) :
    (Instr.buildSlice t 0 #[]).run P w = .ok (.slice (some ⟨w.heap.size, 0, none⟩) 0 0) (w.alloc (.cells #[] e)) := by
  have h0 : Array.range 0 = #[] := by simp
  simp [Instr.buildSlice, run_underlying hu, sizeOf, typeInfo, hie, Instr.fill, newRow, h0]

theorem buildRowK_sound {obl : List (Option OB)} (hT : TabOk P T) (m : Mem E w S φ (fun r => obl.getD r none)) {t len self : Nat} {ps : List (Nat × AV)} {vs : Array (Nat × Value)} {K : AV → W → Prop}
    (hp : PartsOK S w φ (fun r => obl.getD r none) ps vs.toList) (h : buildRowK T t len self ps obl K) :
    ∃ out wr u w', K out wr ∧ (∀ r o, (r, o) ∈ wr → r < obl.length) ∧ (Instr.buildSlice t len vs).run P w = .ok u w' ∧ Post E w S φ (fun r => obl.getD r none) out wr u w' := by
  unfold buildRowK at h
  split at h
  · rename_i e hk
    rw [noO_iff, onlyIf_iff, onlyIf_iff] at h
    obtain ⟨hself, hcond, hkn, h⟩ := h
    rw [Bool.and_eq_true] at hcond
    obtain ⟨hc1, hc2⟩ := hcond
    have hpos : 0 < (T.get e).size := Nat.le_of_ble_eq_true hc1
    have hbig : len * (T.get e).size ≤ 16777216 := Nat.le_of_ble_eq_true hc2
    obtain ⟨hs1, hs2⟩ := noO_none hself
    have hte := hT.of (known_ne hkn)
    obtain ⟨ie, z, hie, hi1, hi2, hz, hz1, _⟩ := hte.info
    obtain ⟨es, wr, S1, hK, m1, k1, hx1, hw1, hl1, hv1, hsz1, hr1⟩ := elems_sound m (FrzExt.refl _) hp h
    rw [onlyIf_iff] at hK
    obtain ⟨hlen, hK⟩ := hK
    have hlen' : es.length = len := Nat.eq_of_beq_eq_true hlen
    let vals := vs.toList.map (·.2)
    have hvl : vals.length = len := by simp only [vals, List.length_map]; omega
    have hvc : ∀ v ∈ vals, v.cells.size = (T.get e).size := by
      intro v hm
      obtain ⟨j, hj, rfl⟩ := List.getElem_of_mem hm
      have hj' : j < vs.toList.length := by simpa [vals] using hj
      have := (hr1 j (by omega) hj').cells.1
      rw [hsz1 j (by omega)] at this
      simpa [vals] using this
    have hbl : ∀ r o, (r, o) ∈ wr ++ [(self, OB.row e (T.get e).size es false)] → r < obl.length := by
      intro r o hm
      rcases List.mem_append.1 hm with hm | hm
      · obtain ⟨e', sz', es', f', e1, _⟩ := hw1 r o hm
        exact getD_obf obl r _ e1
      · simp only [List.mem_singleton, Prod.mk.injEq] at hm
        rw [hm.1]; exact hs2
    -- the new block
    obtain ⟨cells, hrun, hcs, hcell⟩ : ∃ cells : Array Value, (Instr.buildSlice t len vs).run P w = .ok (.slice (some ⟨w.heap.size, 0, none⟩) len len) (w.alloc (.cells cells e)) ∧ cells.size = len * (T.get e).size ∧
        ∀ i j (hi : i < vals.length) (_ : j < (T.get e).size), cells[i * (T.get e).size + j]? = vals[i].cells[j]? := by
      by_cases h0 : len = 0
      · subst h0
        have : vs = #[] := by
          have : vs.toList.length = 0 := by omega
          exact Array.toList_eq_nil_iff.1 (List.eq_nil_of_length_eq_zero this)
        subst this
        exact ⟨#[], run_buildSlice_zero (kind_slice hT hk) hie, by simp, fun i j hi => by rw [hvl] at hi; exact absurd hi (Nat.not_lt_zero _)⟩
      · obtain ⟨r, g1, g2, g3⟩ := Great.fill_dense hpos vals 0 ((Array.range (len * (T.get e).size)).map (z.cells[· % z.cells.size]!)) hvc (by simp [hvl])
        refine ⟨r, ?_, by simpa using g2, fun i j hi hj => ?_⟩
        · have hfill : Instr.fill (fun i => some (i * ie.size, ie.size)) ((Array.range (len * ie.size)).map (z.cells[· % z.cells.size]!)) vs.toList = some r := by
            rw [hi1, hv1]
            exact g1
          exact run_buildSlice w t e len vs r ie z (kind_slice hT hk) hie hz (by rw [hi1]; omega) (by rw [hi1]; exact Nat.mul_ne_zero h0 (by omega)) hfill
        · rw [g3]
          have hlt : (i + 1) * (T.get e).size ≤ vals.length * (T.get e).size := Nat.mul_le_mul_right _ hi
          rw [Nat.add_mul] at hlt
          rw [if_pos ⟨by omega, by rw [Nat.zero_add]; omega⟩]
          have e1 : (i * (T.get e).size + j) / (T.get e).size = i := by rw [Nat.mul_comm, Nat.mul_add_div hpos, Nat.div_eq_of_lt hj, Nat.add_zero]
          have e2 : (i * (T.get e).size + j) % (T.get e).size = j := by rw [Nat.mul_comm, Nat.mul_add_mod, Nat.mod_eq_of_lt hj]
          rw [e1, e2, Nat.sub_zero, List.getElem?_eq_getElem hi]
          rfl
    refine ⟨_, _, _, _, hK, hbl, hrun, ?_⟩
    obtain ⟨m2, k2⟩ := m1.alloc self len (.row e (T.get e).size es false) cells e (hx1.none hs1) (fun r hr => by simp [OB.refs] at hr) (fun hk2 => by
      refine ⟨hpos, fun i hi => hsz1 i hi, fun i hi j hj => ?_, .inr ⟨w.heap.size, len, cells, fun i j => cells.getD (i * (T.get e).size + j) undef, upd_same _ _ _, heap_alloc_new w _, by omega, ?_, hcs, fun i j hi hj => ?_, fun i hi j hj => ?_, fun o _ ho => absurd (m1.bS _ _ ho) (Nat.lt_irrefl _)⟩⟩
      · have hi' : i < vs.toList.length := by omega
        obtain ⟨_, q⟩ := (hr1 i hi hi').cells
        obtain ⟨u, q1, q2, q3⟩ := q j hj
        exact q2
      · have : len ≤ len * (T.get e).size := Nat.le_mul_of_pos_right _ hpos
        simp only [maxLen]
        omega
      · have hlt : (i + 1) * (T.get e).size ≤ len * (T.get e).size := Nat.mul_le_mul_right _ (by omega)
        rw [Nat.add_mul] at hlt
        have : i * (T.get e).size + j < cells.size := by omega
        simp [this]
      · have hi' : i < vs.toList.length := by omega
        have hiv : i < vals.length := by omega
        obtain ⟨_, q⟩ := (hr1 i hi hi').cells
        obtain ⟨u, q1, q2, q3⟩ := q j hj
        rw [hsz1 i hi] at hj
        have hcc := hcell i j hiv hj
        have hvi : vals[i] = vs.toList[i].2 := by simp [vals]
        rw [hvi, q1] at hcc
        have : cells.getD (i * (T.get e).size + j) undef = u := by simp [hcc]
        show RepD _ _ _ (cells.getD (i * (T.get e).size + j) undef)
        rw [this]
        exact q3.mono hk2.k)
    refine ⟨S1, _, by rw [updW_append]; exact m2, by rw [updW_append]; exact k1.trans k2, ?_, ?_⟩
    · refine .own self len _ len len (some ⟨w.heap.size, 0, none⟩) rfl rfl (fun e2 sz2 es2 f2 hx2 => ?_) (fun cs hx2 => ?_)
      · rw [updW_append] at hx2
        simp only [updW, upd_same, Option.some.injEq, OB.row.injEq] at hx2
        obtain ⟨rfl, rfl, rfl, rfl⟩ := hx2
        exact ⟨by omega, fun _ => .inr ⟨_, _, upd_same _ _ _, rfl⟩⟩
      · rw [updW_append] at hx2
        simp [updW] at hx2
    · intro r hr
      simp only [AV.refs, List.mem_singleton] at hr
      subst hr
      rw [updW_append]
      simp [updW]
  · exact h.elim

theorem rowT_eq {T : TT} {e : Nat} (h : rowT T e = true) : (T.get e).kind.cls = some true := by
  unfold rowT at h
  split at h
  · assumption
  · simp at h

theorem buildBoxK_sound {obl : List (Option OB)} (hT : TabOk P T) (m : Mem E w S φ (fun r => obl.getD r none)) {t len self : Nat} {cs : List AV} {vs : Array (Nat × Value)} {K : AV → W → Prop}
    (hp : PartsOK S w φ (fun r => obl.getD r none) [(0, .agg cs)] vs.toList) (h : buildBoxK T t len self cs obl K) :
    ∃ out wr u w', K out wr ∧ (∀ r o, (r, o) ∈ wr → r < obl.length) ∧ (Instr.buildSlice t len vs).run P w = .ok u w' ∧ Post E w S φ (fun r => obl.getD r none) out wr u w' := by
  unfold buildBoxK at h
  split at h
  · rename_i e hk
    rw [noO_iff, onlyIf_iff] at h
    simp only [Bool.and_eq_true] at h
    obtain ⟨hself, ⟨⟨⟨⟨c1, c2⟩, c3⟩, c4⟩, c5⟩, hK⟩ := h
    have hlen : len = 1 := Nat.eq_of_beq_eq_true c1
    subst hlen
    have hcl := rowT_eq c2
    have hsz : (T.get e).size = cs.length := Nat.eq_of_beq_eq_true c3
    have hpos : 0 < (T.get e).size := Nat.le_of_ble_eq_true c4
    have hbig : (T.get e).size ≤ 65536 := Nat.le_of_ble_eq_true c5
    obtain ⟨hs1, hs2⟩ := noO_none hself
    have hte := hT.of (t := e) (by rw [hcl]; simp)
    obtain ⟨ie, z, hie, hi1, hi2, hz, hz1, _⟩ := hte.info
    obtain ⟨u, hvs, hu, hcu⟩ : ∃ u, vs = #[(0, u)] ∧ RepA S w φ (fun r => obl.getD r none) (.agg cs) u ∧ Closed (fun r => obl.getD r none) (.agg cs) := by
      generalize hvl : vs.toList = l at hp
      cases hp with
      | @cons _ q _ l' h1 h2 =>
        cases h2 with
        | nil =>
          obtain ⟨q1, q2⟩ := q
          refine ⟨q2, ?_, h1.2.1, h1.2.2⟩
          have : q1 = 0 := h1.1.symm
          subst this
          exact Array.toList_inj.1 hvl
    subst hvs
    cases hu with | agg _ us f hs hf hn hr =>
    obtain ⟨r, g1, g2, g3⟩ := Great.fill_dense hpos [Value.agg us] 0 ((Array.range (1 * (T.get e).size)).map (z.cells[· % z.cells.size]!)) (by intro v hv; rw [List.mem_singleton.1 hv]; simp only [Value.cells]; omega) (by simp)
    have hrun : (Instr.buildSlice t 1 #[(0, Value.agg us)]).run P w = .ok (.slice (some ⟨w.heap.size, 0, none⟩) 1 1) (w.alloc (.cells r e)) := by
      have hfill : Instr.fill (fun i => some (i * ie.size, ie.size)) ((Array.range (1 * ie.size)).map (z.cells[· % z.cells.size]!)) #[(0, Value.agg us)].toList = some r := by
        rw [hi1]
        exact g1
      exact run_buildSlice w t e 1 _ r ie z (kind_slice hT hk) hie hz (by rw [hi1]; omega) (by rw [hi1]; omega) hfill
    have hrs : r.size = cs.length := by rw [g2]; simp; omega
    have hrc : ∀ j, j < cs.length → r[j]? = some (f j) := by
      intro j hj
      rw [g3, if_pos ⟨by omega, by simp; omega⟩]
      have e1 : j / (T.get e).size = 0 := Nat.div_eq_of_lt (by omega)
      have e2 : j % (T.get e).size = j := Nat.mod_eq_of_lt (by omega)
      rw [e1, e2]
      simpa [Value.cells] using hf j hj
    obtain ⟨m2, k2⟩ := m.alloc self 1 (.box cs) r e hs1 (fun r' hr' => hcu r' (by simpa [OB.refs, AV.refs] using hr')) (fun hk2 => by
      refine ⟨w.heap.size, 1, r, e, f, upd_same _ _ _, heap_alloc_new w _, hrs, fun o ho => absurd (m.bS _ _ ho) (Nat.lt_irrefl _), hrc, fun j hj => ⟨hn j hj, ?_⟩⟩
      exact hk2.rep (fun r' hr' => hcu r' (by simpa [AV.refs] using AV.refs_mem cs j hj r' hr')) (hr j hj))
    refine ⟨_, _, _, _, hK, fun r' o hm => ?_, hrun, S, _, m2, k2, ?_, ?_⟩
    · simp only [List.mem_singleton, Prod.mk.injEq] at hm
      rw [hm.1]; exact hs2
    · refine .own self 1 _ 1 1 (some ⟨w.heap.size, 0, none⟩) rfl rfl (fun e2 sz2 es2 f2 hx2 => ?_) (fun cs2 hx2 => ⟨rfl, _, _, upd_same _ _ _, rfl⟩)
      simp [updW] at hx2
    · intro r' hr'
      simp only [AV.refs, List.mem_singleton] at hr'
      subst hr'
      simp [updW]
  · exact h.elim

theorem buildSliceK_sound {obl : List (Option OB)} (hT : TabOk P T) (m : Mem E w S φ (fun r => obl.getD r none)) {t len self : Nat} {ps : List (Nat × AV)} {vs : Array (Nat × Value)} {K : AV → W → Prop}
    (hp : PartsOK S w φ (fun r => obl.getD r none) ps vs.toList) (h : buildSliceK T t len self ps obl K) :
    ∃ out wr u w', K out wr ∧ (∀ r o, (r, o) ∈ wr → r < obl.length) ∧ (Instr.buildSlice t len vs).run P w = .ok u w' ∧ Post E w S φ (fun r => obl.getD r none) out wr u w' := by
  unfold buildSliceK at h
  split at h
  · rcases h with h | h
    · exact buildRowK_sound hT m hp h
    · exact buildBoxK_sound hT m hp h
  · exact buildRowK_sound hT m hp h
end
end Go.AX
