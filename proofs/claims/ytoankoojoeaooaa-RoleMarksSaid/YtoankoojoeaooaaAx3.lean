/-
  AX, part 3: the table of types, and that each operation of the machine is the model's.
-/
import Derived.Test.YtoankoojoeaooaaAx2
import Derived.Laws.StructEq
import Derived.Laws.IdiomCopy
import Derived.Great.BuildSlice
namespace Go.AX

/-! ## The table -/
def KindOk (P : Program) (t : Nat) : TK → Prop
  | .bool => P.underlying t = some .bool
  | .int k => P.underlying t = some (.int k)
  | .str => P.underlying t = some .string
  | .ptr => ∃ e, P.underlying t = some (.pointer e)
  | .fn => ∃ a b c, P.underlying t = some (.func a b c)
  | .slice e => P.underlying t = some (.slice e)
  | .arr n e => P.underlying t = some (.array n e)
  | .map k e => P.underlying t = some (.map k e)
  | .struct fs => P.stoodInHeld t = false ∧ P.eqGuardType P.depth t = false ∧ ∃ F : Array Field, P.underlying t = some (.struct F) ∧
      F.toList.map (fun f => (f.offset, (P.info? f.type).map (·.size), f.type)) = fs.map (fun x => (x.1, some x.2.1, x.2.2)) ∧ ∀ f ∈ F.toList, f.name ≠ "_"
  | .other => True

def zeroOk : D → Value → Prop
  | .val v, v' => v = v' ∧ v.oneCell' = true
  | .nil _, v' => v' = .slice none 0 0
  | _, _ => False

structure TiOk (P : Program) (t : Nat) (ti : TI) : Prop where
  info : ∃ i z, P.info? t = some i ∧ i.size = ti.size ∧ i.bytes = ti.bytes ∧ i.zero = some z ∧ z.cells.size = ti.size ∧ ti.zero.length = ti.size ∧
    ∀ j (hj : j < ti.zero.length) v, z.cells[j]? = some v → zeroOk ti.zero[j] v
  kind : KindOk P t ti.kind
  aggz : ∀ i z, P.info? t = some i → i.zero = some z → (ti.kind.cls = some true → ∃ cs, z = .agg cs) ∧ (ti.kind.cls = some false → ∀ cs, z ≠ .agg cs)

def TabOk (P : Program) (T : TT) : Prop := ∀ t, (T.get t).kind.cls = none ∨ TiOk P t (T.get t)

section
variable {P : Program} {T : TT}

theorem TabOk.of (h : TabOk P T) {t : Nat} (hk : (T.get t).kind.cls ≠ none) : TiOk P t (T.get t) := (h t).resolve_left hk

theorem TiOk.info1 {t : Nat} {ti : TI} (h : TiOk P t ti) : (P.info? t).map (·.size) = some ti.size := by
  obtain ⟨i, z, h1, h2, _⟩ := h.info
  simp [h1, h2]

theorem KindOk.plain {t : Nat} {k : TK} (h : KindOk P t k) (hc : k.cls = some false) : ∃ d, P.underlying t = some d ∧ d.isRow = false := by
  cases k <;> simp [TK.cls] at hc <;> simp only [KindOk] at h
  case ptr => obtain ⟨e, h⟩ := h; exact ⟨_, h, rfl⟩
  case fn => obtain ⟨a, b, c, h⟩ := h; exact ⟨_, h, rfl⟩
  all_goals exact ⟨_, h, rfl⟩

theorem KindOk.row {t : Nat} {k : TK} (h : KindOk P t k) (hc : k.cls = some true) : ∃ d, P.underlying t = some d ∧ d.isRow = true := by
  cases k <;> simp [TK.cls] at hc <;> simp only [KindOk] at h
  case arr => exact ⟨_, h, rfl⟩
  case struct => obtain ⟨_, _, F, h, _⟩ := h; exact ⟨_, h, rfl⟩

theorem run_isAgg {t : Nat} {d : TypeDesc} (h : P.underlying t = some d) (w : World) : (isAgg t).run P w = .ok d.isRow w := by
  unfold isAgg
  rw [Sem.run_bind, run_underlying h w]
  cases d <;> rfl

/-! ## What an operation leaves -/
def updW (ob : Nat → Option OB) : W → Nat → Option OB
  | [] => ob
  | (r, x) :: w => updW (upd ob r (some x)) w

/-- the operation goes through, and leaves a value and a world that meet 'Q' -/
def RunOK (P : Program) (o : Oper) (ρ : Operand → Value) (w : World) (Q : Value → World → Prop) : Prop :=
  match (execOp ρ o).run P w with
  | .ok (.value v) w' => Q v w'
  | .ok .skip w' => Q undef w'
  | .ok (.enter f args) w' => Calls P f args w' fun e w'' => ∃ v, e = .returned v ∧ Q v w''
  | _ => False

def Post (E : Env) (w : World) (S : Sc) (φ : Nat → Option (Nat × Nat)) (ob : Nat → Option OB) (out : AV) (wr : W) (v : Value) (w' : World) : Prop :=
  ∃ S' φ', Mem E w' S' φ' (updW ob wr) ∧ Kept w S φ ob w' S' φ' (updW ob wr) ∧ RepA S' w' φ' (updW ob wr) out v ∧ Closed (updW ob wr) out

variable {E : Env} {w : World} {S : Sc} {φ : Nat → Option (Nat × Nat)} {ob : Nat → Option OB}

theorem Post.pure (m : Mem E w S φ ob) {out : AV} {v : Value} (h : RepA S w φ ob out v) (hc : Closed ob out) : Post E w S φ ob out [] v w :=
  ⟨S, φ, m, .refl w S φ ob, h, hc⟩

theorem closed_d (ob : Nat → Option OB) (x : D) : Closed ob (.d x) := fun r hr => by simp [AV.refs] at hr
theorem closed_dead (ob : Nat → Option OB) : Closed ob .dead := fun r hr => by simp [AV.refs] at hr

theorem RepA.int {k : IntKind} {n : Int} {v : Value} (h : RepA S w φ ob (.d (.val (.int k n))) v) : v = .int k n := by
  cases h with | d _ _ h => cases h with | val _ _ => rfl
theorem RepA.bool {b : Bool} {v : Value} (h : RepA S w φ ob (.d (.val (.bool b))) v) : v = .bool b := by
  cases h with | d _ _ h => cases h with | val _ _ => rfl
theorem RepA.str {s : ByteArray} {v : Value} (h : RepA S w φ ob (.d (.val (.string s))) v) : v = .string s := by
  cases h with | d _ _ h => cases h with | val _ _ => rfl
theorem RepA.val {x v : Value} (h : RepA S w φ ob (.d (.val x)) v) : v = x := by
  cases h with | d _ _ h => cases h with | val _ _ => rfl
theorem RepA.mkv {v : Value} (h : v.oneCell' = true) : RepA S w φ ob (.d (.val v)) v := .d _ _ (.val _ h)
theorem RepA.ref' {r off : Nat} {v : Value} (h : RepA S w φ ob (.ref r off) v) : ∃ b c, φ r = some (b, c) ∧ v = .pointer (some ⟨b, off, none⟩) := by
  cases h with | ref _ _ b c h hb => exact ⟨b, c, h, rfl⟩

theorem getD_obf (l : List (Option OB)) (r : Nat) (o : OB) : l.getD r none = some o → r < l.length := by
  intro h
  rcases Nat.lt_or_ge r l.length with hl | hl
  · exact hl
  · simp [hl] at h

/-! ### Cells of a block -/
theorem Addr.add_none (b o n : Nat) : (⟨b, o, none⟩ : Addr).add n = ⟨b, o + n, none⟩ := Addr.add_mid b o n

theorem AV.refs_mem : ∀ (cs : List AV) (j : Nat) (hj : j < cs.length) (r : Nat), r ∈ cs[j].refs → r ∈ AV.refs.refsL cs
  | [], j, hj, _, _ => by simp at hj
  | c :: cs, 0, _, r, hm => by simp only [AV.refs.refsL, List.mem_append]; exact .inl hm
  | c :: cs, j + 1, hj, r, hm => by
    simp only [AV.refs.refsL, List.mem_append]
    exact .inr (AV.refs_mem cs j (by simpa using hj) r hm)

theorem AV.refs_mem' : ∀ (cs : List AV) (r : Nat), r ∈ AV.refs.refsL cs → ∃ c ∈ cs, r ∈ c.refs
  | [], r, h => by simp [AV.refs.refsL] at h
  | c :: cs, r, h => by
    simp only [AV.refs.refsL, List.mem_append] at h
    rcases h with h | h
    · exact ⟨c, by simp, h⟩
    · obtain ⟨c', h1, h2⟩ := AV.refs_mem' cs r h
      exact ⟨c', by simp [h1], h2⟩

/-- a list of cells as one value -/
theorem rep_aggF {cs : List AV} {vs : Array Value} (hs : vs.size = cs.length) (h : ∀ i (hi : i < cs.length), ∃ v, vs[i]? = some v ∧ cs[i].one = true ∧ RepA S w φ ob cs[i] v) :
    RepA S w φ ob (aggF cs) (.agg vs) := by
  have hv : ∀ i (hi : i < cs.length), vs[i]? = some (vs.getD i undef) := fun i hi => by
    obtain ⟨v, h1, _⟩ := h i hi
    simp [h1]
  have hr : ∀ i (hi : i < cs.length), RepA S w φ ob cs[i] (vs.getD i undef) := fun i hi => by
    obtain ⟨v, h1, _, h3⟩ := h i hi
    simpa [h1] using h3
  unfold aggF
  cases hc : allD cs with
  | none => exact .agg cs vs _ hs hv (fun i hi => by obtain ⟨v, _, h2, _⟩ := h i hi; exact h2) hr
  | some l =>
    have := allD_eq cs l hc
    subst this
    refine .d _ _ (.agg l vs _ (by simpa using hs) (fun i hi => hv i (by simpa using hi)) (fun i hi => ?_) fun i hi => ?_)
    · obtain ⟨v, _, h2, _⟩ := h i (by simpa using hi)
      simpa [AV.one] using h2
    · have := hr i (by simpa using hi)
      simp only [List.getElem_map] at this
      cases this with | d _ _ h => exact h

theorem closed_aggF {cs : List AV} (h : ∀ c ∈ cs, Closed ob c) : Closed ob (aggF cs) := by
  unfold aggF
  cases hc : allD cs with
  | some l => exact closed_d ob _
  | none =>
    intro r hr
    obtain ⟨c, h1, h2⟩ := AV.refs_mem' cs r (by simpa [AV.refs] using hr)
    exact h c h1 r h2

/-- the cells of a value -/
theorem rep_cells {a : AV} {v : Value} {cs : List AV} (h : RepA S w φ ob a v) (hc : cellsF a = some cs) :
    v.cells.size = cs.length ∧ ∀ i (hi : i < cs.length), ∃ u, v.cells[i]? = some u ∧ cs[i].one = true ∧ RepA S w φ ob cs[i] u := by
  have one : ∀ {a : AV} {v : Value}, RepA S w φ ob a v → a.one = true → v.cells.size = [a].length ∧ ∀ i (hi : i < [a].length), ∃ u, v.cells[i]? = some u ∧ [a][i].one = true ∧ RepA S w φ ob [a][i] u := by
    intro a v h h1
    have h2 := h.one h1
    have hv : v.cells = #[v] := by cases v <;> first | rfl | simp [Value.oneCell'] at h2
    refine ⟨by simp [hv], fun i hi => ?_⟩
    have : i = 0 := by simpa using hi
    subst this
    exact ⟨v, by simp [hv], h1, h⟩
  cases a with
  | d x =>
    cases x with
    | agg l =>
      simp only [cellsF] at hc
      obtain ⟨h1, h2⟩ := cellsDF_eq l cs hc
      subst h1
      cases h with | d _ _ h => cases h with | agg _ vs f hs hf hn hr =>
        refine ⟨by simp [Value.cells, hs], fun i hi => ⟨f i, ?_, ?_, ?_⟩⟩
        · exact hf i (by simpa using hi)
        · simpa [AV.one] using hn i (by simpa using hi)
        · simpa using RepA.d _ _ (hr i (by simpa using hi))
    | val v => simp only [cellsF, Option.some.injEq] at hc; subst hc; exact one h rfl
    | nil => simp only [cellsF, Option.some.injEq] at hc; subst hc; exact one h rfl
    | lst => simp only [cellsF, Option.some.injEq] at hc; subst hc; exact one h rfl
  | agg l =>
    simp only [cellsF, Option.some.injEq] at hc
    subst hc
    cases h with | agg _ vs f hs hf hn hr => exact ⟨by simp [Value.cells, hs], fun i hi => ⟨f i, hf i hi, hn i hi, hr i hi⟩⟩
  | ref => simp only [cellsF, Option.some.injEq] at hc; subst hc; exact one h rfl
  | own => simp only [cellsF, Option.some.injEq] at hc; subst hc; exact one h rfl
  | mp => simp only [cellsF, Option.some.injEq] at hc; subst hc; exact one h rfl
  | fn => simp only [cellsF, Option.some.injEq] at hc; subst hc; exact one h rfl
  | _ => simp [cellsF] at hc

theorem closed_cells {a : AV} {cs : List AV} (h : Closed ob a) (hc : cellsF a = some cs) : ∀ c ∈ cs, Closed ob c := by
  cases a with
  | d x =>
    cases x with
    | agg l =>
      simp only [cellsF] at hc
      obtain ⟨h1, _⟩ := cellsDF_eq l cs hc
      subst h1
      intro c hm
      obtain ⟨x, _, rfl⟩ := List.mem_map.1 hm
      exact closed_d ob x
    | _ => simp only [cellsF, Option.some.injEq] at hc; subst hc; intro c hm; rw [List.mem_singleton.1 hm]; exact h
  | agg l =>
    simp only [cellsF, Option.some.injEq] at hc
    subst hc
    intro c hm r hr
    obtain ⟨j, hj, rfl⟩ := List.getElem_of_mem hm
    exact h r (AV.refs_mem l j hj r hr)
  | ref => simp only [cellsF, Option.some.injEq] at hc; subst hc; intro c hm; rw [List.mem_singleton.1 hm]; exact h
  | own => simp only [cellsF, Option.some.injEq] at hc; subst hc; intro c hm; rw [List.mem_singleton.1 hm]; exact h
  | mp => simp only [cellsF, Option.some.injEq] at hc; subst hc; intro c hm; rw [List.mem_singleton.1 hm]; exact h
  | fn => simp only [cellsF, Option.some.injEq] at hc; subst hc; intro c hm; rw [List.mem_singleton.1 hm]; exact h
  | _ => simp [cellsF] at hc

/-! ### Loads -/
theorem run_load_plain {t : Nat} {d : TypeDesc} (hu : P.underlying t = some d) (hd : d.isRow = false) {b o : Nat} {v : Value} (h : cellAt w b o = some v) :
    (loadVar t ⟨b, o, none⟩).run P w = .ok v w := by
  have : w.cell? ⟨b, o, none⟩ = some v := h
  simp [loadVar, run_isAgg hu, hd, this]

theorem run_load_row {t : Nat} {ti : TI} (hti : TiOk P t ti) (hc : ti.kind.cls = some true) {b o : Nat} {vs : List Value} (hl : vs.length = ti.size)
    (h : ∀ j v, vs[j]? = some v → cellAt w b (o + j) = some v) : (loadVar t ⟨b, o, none⟩).run P w = .ok (.agg vs.toArray) w := by
  obtain ⟨d, hu, hd⟩ := hti.kind.row hc
  exact run_loadVar_mid w b o t vs d h hu hd (by rw [hti.info1, hl])

/-- a load: what the machine hands on is what the model reads -/
theorem loadK_sound {obl : List (Option OB)} (hT : TabOk P T) (m : Mem E w S φ (fun r => obl.getD r none)) {t : Nat} {a : AV} {v : Value} {K : AV → Prop} (ha : RepA S w φ (fun r => obl.getD r none) a v)
    (hc : Closed (fun r => obl.getD r none) a) (h : loadK T t a obl K) :
    ∃ out u, K out ∧ (Instr.loadAt t v).run P w = .ok u w ∧ RepA S w φ (fun r => obl.getD r none) out u ∧ Closed (fun r => obl.getD r none) out := by
  cases a <;> simp only [loadK] at h
  case ref r off =>
    obtain ⟨b, c, hφ, rfl⟩ := ha.ref'
    rw [findO_iff] at h
    obtain ⟨o, ho, h⟩ := h
    cases o with
    | row => simp at h
    | map => simp at h
    | box cs =>
      simp only at h
      obtain ⟨b', c', vs, e, f, g1, g2, g3, g4, g5, g6⟩ := m.obj r _ ho
      rw [hφ] at g1
      simp only [Option.some.injEq, Prod.mk.injEq] at g1
      obtain ⟨rfl, rfl⟩ := g1
      have hcell : ∀ j, j < cs.length → cellAt w b j = some (f j) := fun j hj => by rw [cellAt_heap g2]; exact g5 j hj
      have hclo : ∀ c ∈ cs, Closed (fun r => obl.getD r none) c := fun c hm r' hr' => by
        obtain ⟨j, hj, rfl⟩ := List.getElem_of_mem hm
        exact m.men r _ ho r' (by simpa [OB.refs] using AV.refs_mem cs j hj r' hr')
      cases hcl : (T.get t).kind.cls with
      | none => simp [hcl] at h
      | some q =>
        have hti := hT.of (t := t) (by rw [hcl]; simp)
        cases q with
        | true =>
          simp only [hcl, dropK_iff, onlyIf_iff, takeK_iff, aggOf_iff, Nat.ble_eq] at h
          obtain ⟨hle, hK⟩ := h
          simp only [List.length_drop] at hle
          let vl : List Value := (List.range (T.get t).size).map fun j => f (off + j)
          have hlen : ((cs.drop off).take (T.get t).size).length = (T.get t).size := by simp; omega
          refine ⟨_, .agg vl.toArray, hK, ?_, ?_, ?_⟩
          · simp only [Instr.loadAt, Instr.sureAddr, Sem.run_bind, Sem.run_pure, Result.andThen_ok]
            refine run_load_row hti hcl (by simp [vl]) fun j u hu => ?_
            simp only [vl, List.getElem?_map, Option.map_eq_some_iff] at hu
            obtain ⟨j', hj', rfl⟩ := hu
            obtain ⟨h1, h2⟩ := List.getElem?_eq_some_iff.1 hj'
            simp at h1 h2
            subst h2
            exact hcell _ (by omega)
          · refine rep_aggF (by rw [hlen]; simp [vl]) fun i hi => ⟨f (off + i), ?_, ?_, ?_⟩
            · rw [hlen] at hi
              simp [vl, hi]
            · simp only [List.getElem_take, List.getElem_drop]
              rw [hlen] at hi
              exact (g6 (off + i) (by omega)).1
            · simp only [List.getElem_take, List.getElem_drop]
              rw [hlen] at hi
              exact (g6 (off + i) (by omega)).2
          · exact closed_aggF fun c hm => hclo c (List.mem_of_mem_drop (List.mem_of_mem_take hm))
        | false =>
          simp only [hcl] at h
          cases hg : cs[off]? with
          | none => simp [hg] at h
          | some x =>
            simp only [hg, force_iff] at h
            obtain ⟨h1, h2⟩ := List.getElem?_eq_some_iff.1 hg
            obtain ⟨d, hu, hd⟩ := hti.kind.plain hcl
            refine ⟨x, f off, h, ?_, h2 ▸ (g6 off h1).2, hclo x (List.mem_of_getElem? hg)⟩
            simp only [Instr.loadAt, Instr.sureAddr, Sem.run_bind, Sem.run_pure, Result.andThen_ok, run_load_plain hu hd (hcell off h1)]
  case eref cs =>
    cases ha with | eref _ b o f hS hn hr =>
      cases hcl : (T.get t).kind.cls with
      | none => simp [hcl] at h
      | some q =>
        have hti := hT.of (t := t) (by rw [hcl]; simp)
        cases q with
        | true =>
          simp only [hcl, onlyIf_iff, takeK_iff, Nat.ble_eq] at h
          obtain ⟨hle, hK⟩ := h
          let vl : List Value := (List.range (T.get t).size).map fun j => f j
          refine ⟨_, .agg vl.toArray, hK, ?_, ?_, closed_d _ _⟩
          · simp only [Instr.loadAt, Instr.sureAddr, Sem.run_bind, Sem.run_pure, Result.andThen_ok]
            refine run_load_row hti hcl (by simp [vl]) fun j u hu => ?_
            simp only [vl, List.getElem?_map, Option.map_eq_some_iff] at hu
            obtain ⟨j', hj', rfl⟩ := hu
            obtain ⟨h1, h2⟩ := List.getElem?_eq_some_iff.1 hj'
            simp at h1 h2
            subst h2
            exact (hS _ (by omega)).2
          · refine .d _ _ (.agg _ _ f (by simp [vl]; omega) (fun i hi => ?_) (fun i hi => ?_) fun i hi => ?_)
            · simp only [List.length_take] at hi
              have := Nat.lt_of_lt_of_le hi (Nat.min_le_left _ _)
              simp [vl, this]
            · simp only [List.getElem_take]
              exact hn i _
            · simp only [List.getElem_take]
              exact hr i _
        | false =>
          simp only [hcl] at h
          cases hg : cs[0]? with
          | none => simp [hg] at h
          | some x =>
            simp only [hg] at h
            obtain ⟨h1, h2⟩ := List.getElem?_eq_some_iff.1 hg
            obtain ⟨d, hu, hd⟩ := hti.kind.plain hcl
            refine ⟨.d x, f 0, h, ?_, h2 ▸ .d _ _ (hr 0 h1), closed_d _ _⟩
            simp only [Instr.loadAt, Instr.sureAddr, Sem.run_bind, Sem.run_pure, Result.andThen_ok, run_load_plain hu hd (by simpa using (hS 0 h1).2)]
  case rref r n i k =>
    rw [findO_iff] at h
    obtain ⟨o, ho, h⟩ := h
    cases o with
    | box cs => simp at h
    | map => simp at h
    | row e sz es frz =>
      simp only at h
      obtain ⟨hn, x, hx, h⟩ := h
      cases ha with | rref _ _ _ _ _ h1 hb hp =>
        obtain ⟨_, h2⟩ := h1 e sz es frz ho
        obtain ⟨hi, b, c, hφ, rfl⟩ := h2 hn
        obtain ⟨g0, g1, g2, g3⟩ := m.obj r _ ho
        rcases g3 with ⟨f1, _⟩ | ⟨b', cap, vs, f, f1, f2, f3, f4, f5, f6, f7, f8⟩
        · rw [hφ] at f1; simp at f1
        · rw [hφ] at f1
          simp only [Option.some.injEq, Prod.mk.injEq] at f1
          obtain ⟨rfl, rfl⟩ := f1
          have hi' : i < es.length := by omega
          have hxe : x = es[i] := by rw [← hx]; simp [hi']
          subst hxe
          have hszx := g1 i hi'
          have hcell : ∀ j, j < sz → cellAt w b (i * sz + j) = some (f i j) := fun j hj => by rw [cellAt_heap f2]; exact f6 i j hi' hj
          rw [dropK_iff] at h
          cases hcl : (T.get t).kind.cls with
          | none => simp [hcl] at h
          | some q =>
            have hti := hT.of (t := t) (by rw [hcl]; simp)
            cases q with
            | true =>
              simp only [hcl, onlyIf_iff, takeK_iff, Nat.ble_eq] at h
              obtain ⟨hle, hK⟩ := h
              simp only [List.length_drop, hszx] at hle
              let vl : List Value := (List.range (T.get t).size).map fun j => f i (k + j)
              refine ⟨_, .agg vl.toArray, hK, ?_, ?_, closed_d _ _⟩
              · simp only [Instr.loadAt, Instr.sureAddr, Sem.run_bind, Sem.run_pure, Result.andThen_ok]
                refine run_load_row hti hcl (by simp [vl]) fun j u hu => ?_
                simp only [vl, List.getElem?_map, Option.map_eq_some_iff] at hu
                obtain ⟨j', hj', rfl⟩ := hu
                obtain ⟨h1, h2⟩ := List.getElem?_eq_some_iff.1 hj'
                simp at h1 h2
                subst h2
                rw [Nat.add_assoc]
                exact hcell _ (by omega)
              · refine .d _ _ (.agg _ _ (fun j => f i (k + j)) (by simp [vl, hszx]; omega) (fun j hj => ?_) (fun j hj => ?_) fun j hj => ?_)
                · simp only [List.length_take] at hj
                  have := Nat.lt_of_lt_of_le hj (Nat.min_le_left _ _)
                  simp [vl, this]
                · simp only [List.getElem_take, List.getElem_drop]
                  exact g2 i hi' _ _
                · simp only [List.getElem_take, List.getElem_drop]
                  exact f7 i hi' _ _
            | false =>
              simp only [hcl] at h
              cases hg : (es[i].cells.drop k)[0]? with
              | none => simp [hg] at h
              | some y =>
                simp only [hg] at h
                obtain ⟨h1, h2⟩ := List.getElem?_eq_some_iff.1 hg
                simp [hszx] at h1
                obtain ⟨d, hu, hd⟩ := hti.kind.plain hcl
                refine ⟨.d y, f i k, h, ?_, ?_, closed_d _ _⟩
                · simp only [Instr.loadAt, Instr.sureAddr, Sem.run_bind, Sem.run_pure, Result.andThen_ok, run_load_plain hu hd (hcell k (by omega))]
                · simp only [List.getElem_drop, Nat.add_zero] at h2
                  subst h2
                  exact .d _ _ (f7 i hi' k _)

/-! ### New variables -/
theorem obf_set (obl : List (Option OB)) (r : Nat) (x : OB) (h : r < obl.length) : (fun i => (obl.set r (some x)).getD i none) = upd (fun i => obl.getD i none) r (some x) := by
  funext i
  by_cases hi : i = r
  · subst hi; simp [h]
  · rw [upd_other _ _ _ _ hi]
    simp [List.getElem?_set_ne (Ne.symm hi)]

/-- a variable made of cells that are at hand -/
theorem box_sound (m : Mem E w S φ ob) {self : Nat} {cs : List AV} {v : Value} (e : Nat) (hself : ob self = none) (hs : v.cells.size = cs.length)
    (h : ∀ i (hi : i < cs.length), ∃ u, v.cells[i]? = some u ∧ cs[i].one = true ∧ RepA S w φ ob cs[i] u) (hc : ∀ c ∈ cs, Closed ob c) :
    Post E w S φ ob (.ref self 0) [(self, .box cs)] (.pointer (some ⟨w.heap.size, 0, none⟩)) (w.alloc (.cells v.cells e)) := by
  obtain ⟨m', k'⟩ := m.alloc self 0 (.box cs) v.cells e hself (fun r hr => by
    obtain ⟨c, h1, h2⟩ := AV.refs_mem' cs r (by simpa [OB.refs] using hr)
    exact hc c h1 r h2) (fun hk => by
    refine ⟨w.heap.size, 0, v.cells, e, fun j => v.cells.getD j undef, upd_same _ _ _, heap_alloc_new w _, hs, fun o ho => ?_, fun j hj => ?_, fun j hj => ?_⟩
    · exact absurd (m.bS _ _ ho) (Nat.lt_irrefl _)
    · obtain ⟨u, h1, _⟩ := h j hj
      simp [h1]
    · obtain ⟨u, h1, h2, h3⟩ := h j hj
      refine ⟨h2, ?_⟩
      have := hk.rep (hc _ (List.getElem_mem hj)) h3
      simpa [h1] using this)
  refine ⟨S, _, m', k', .ref self 0 w.heap.size 0 (upd_same _ _ _) (fun e' sz es frz hx => ?_), fun r hr => ?_⟩
  · simp [updW] at hx
  · simp only [AV.refs, List.mem_singleton] at hr
    subst hr
    simp [updW]

theorem zero_cells {t : Nat} {ti : TI} (h : TiOk P t ti) {i : TypeInfo} {z : Value} (hi : P.info? t = some i) (hz : i.zero = some z) (S : Sc) (w : World) (φ : Nat → Option (Nat × Nat)) (ob : Nat → Option OB) :
    z.cells.size = (ti.zero.map AV.d).length ∧ ti.zero.length = ti.size ∧ ∀ j (hj : j < (ti.zero.map AV.d).length), ∃ u, z.cells[j]? = some u ∧ (ti.zero.map AV.d)[j].one = true ∧ RepA S w φ ob (ti.zero.map AV.d)[j] u := by
  obtain ⟨i', z', h1, h2, h3, h4, h5, h6, h7⟩ := h.info
  rw [hi] at h1
  obtain rfl := Option.some.inj h1
  rw [hz] at h4
  obtain rfl := Option.some.inj h4
  refine ⟨by simp [h5, h6], h6, fun j hj => ?_⟩
  have hj' : j < ti.zero.length := by simpa using hj
  have hlt : j < z.cells.size := by omega
  refine ⟨z.cells[j], by simp [hlt], ?_⟩
  have := h7 j hj' z.cells[j] (by simp [hlt])
  simp only [List.getElem_map]
  generalize ti.zero[j] = x at this
  generalize z.cells[j] = u at this
  cases x with
  | val v => obtain ⟨rfl, h⟩ := this; exact ⟨rfl, .d _ _ (.val _ h)⟩
  | nil => simp only [zeroOk] at this; subst this; exact ⟨rfl, .d _ _ (.nil _)⟩
  | agg => simp [zeroOk] at this
  | lst => simp [zeroOk] at this

/-! ### Stores -/
def overL {α : Type} (cs : List α) (n : Nat) (vs : List α) : List α := cs.take n ++ vs ++ cs.drop (n + vs.length)

theorem overL_length {α : Type} (cs : List α) (n : Nat) (vs : List α) (h : n + vs.length ≤ cs.length) : (overL cs n vs).length = cs.length := by
  simp [overL]; omega

theorem overL_get {α : Type} (cs : List α) (n : Nat) (vs : List α) (h : n + vs.length ≤ cs.length) (j : Nat) :
    (overL cs n vs)[j]? = if n ≤ j ∧ j < n + vs.length then vs[j - n]? else cs[j]? := by
  unfold overL
  rw [List.append_assoc, List.getElem?_append]
  simp only [List.length_take, Nat.min_eq_left (show n ≤ cs.length by omega)]
  split
  · rw [if_neg (by omega), List.getElem?_take_of_lt (by assumption)]
  · rw [List.getElem?_append]
    split
    · rw [if_pos (by omega)]
    · rw [if_neg (by omega), List.getElem?_drop]
      congr 1
      omega

theorem run_storeAt_row {t : Nat} {v : Value} {b o : Nat} {e : Nat} {cur : Array Value} (hg : w.heap[b]? = some (.cells cur e (0, 0))) (hi : (P.info? t).map (·.size) = some v.cells.size)
    (hl : o + v.cells.size ≤ cur.size) (h1 : ∀ u ∈ v.cells.toList, u.oneCell' = true) :
    (Instr.storeAt t (.pointer (some ⟨b, o, none⟩)) v).run P w = .ok () (w.setRow b (overL cur.toList o v.cells.toList).toArray) := by
  have := run_storeCells_at P b o e v.cells.toList 0 cur w hg (by simpa using hl) h1
  simp only [Nat.add_zero] at this
  cases hq : P.info? t with
  | none => simp [hq] at hi
  | some i =>
    have hs : v.cells.size = i.size := by simp [hq] at hi; omega
    simp [Instr.storeAt, Instr.sureAddr, storeVar, sizeOf, typeInfo, hq, hs, this, overL]

theorem setRow_kept (w : World) (b : Nat) (cs : Array Value) : (∀ k, k ≠ b → (w.setRow b cs).heap[k]? = w.heap[k]?) ∧ (w.setRow b cs).heap.size = w.heap.size ∧
    ((w.setRow b cs).os = w.os ∧ (w.setRow b cs).output = w.output ∧ (w.setRow b cs).tape = w.tape) :=
  ⟨fun k hk => setRow_other w b k cs hk, size_setRow w b cs, rfl, rfl, rfl⟩

theorem cells_one {v : Value} {cs : List AV} (hs : v.cells.size = cs.length) (h : ∀ i (hi : i < cs.length), ∃ u, v.cells[i]? = some u ∧ cs[i].one = true ∧ RepA S w φ ob cs[i] u) :
    ∀ u ∈ v.cells.toList, u.oneCell' = true := by
  intro u hu
  obtain ⟨i, hi, rfl⟩ := List.getElem_of_mem hu
  have hi' : i < cs.length := by simpa [hs] using hi
  obtain ⟨u, h1, h2, h3⟩ := h i hi'
  have : u = v.cells.toList[i] := by
    have : v.cells.toList[i]? = some u := by simpa using h1
    rw [List.getElem?_eq_getElem hi] at this
    exact (Option.some.inj this).symm
  rw [← this]
  exact h3.one h2

/-- a store into a variable -/
theorem store_box_sound (m : Mem E w S φ ob) {t r off : Nat} {cs vs : List AV} {v : Value} {b c : Nat} (hφ : φ r = some (b, c)) (ho : ob r = some (.box cs)) (hi : (P.info? t).map (·.size) = some vs.length)
    (hs : v.cells.size = vs.length) (h : ∀ i (hi : i < vs.length), ∃ u, v.cells[i]? = some u ∧ vs[i].one = true ∧ RepA S w φ ob vs[i] u) (hc : ∀ c ∈ vs, Closed ob c) (hle : off + vs.length ≤ cs.length) :
    ∃ w', (Instr.storeAt t (.pointer (some ⟨b, off, none⟩)) v).run P w = .ok () w' ∧ Post E w S φ ob .dead [(r, .box (overL cs off vs))] undef w' := by
  obtain ⟨b', c', cur, e, f, g1, g2, g3, g4, g5, g6⟩ := m.obj r _ ho
  rw [hφ] at g1
  simp only [Option.some.injEq, Prod.mk.injEq] at g1
  obtain ⟨rfl, rfl⟩ := g1
  have hsz : off + v.cells.toList.length ≤ cur.toList.length := by simp; omega
  refine ⟨_, run_storeAt_row g2 (by rw [hi, hs]) (by omega) (cells_one hs h), ?_⟩
  obtain ⟨q1, q2, q3⟩ := setRow_kept w b (overL cur.toList off v.cells.toList).toArray
  have hh := setRow_heap w b cur (overL cur.toList off v.cells.toList).toArray e (0, 0) g2
  have hrefs : ∀ r' ∈ (OB.box (overL cs off vs)).refs, ob r' ≠ none := by
    intro r' hr'
    obtain ⟨x, h1, h2⟩ := AV.refs_mem' _ r' (by simpa [OB.refs] using hr')
    simp only [overL, List.mem_append] at h1
    rcases h1 with (h1 | h1) | h1
    · obtain ⟨j, hj, rfl⟩ := List.getElem_of_mem (List.mem_of_mem_take h1)
      exact m.men r _ ho r' (by simpa [OB.refs] using AV.refs_mem cs j hj r' h2)
    · exact hc x h1 r' h2
    · obtain ⟨j, hj, rfl⟩ := List.getElem_of_mem (List.mem_of_mem_drop h1)
      exact m.men r _ ho r' (by simpa [OB.refs] using AV.refs_mem cs j hj r' h2)
  have hl0 : (overL cs off vs).length = cs.length := overL_length _ _ _ hle
  have := m.set r _ (.box (overL cs off vs)) (w.setRow b (overL cur.toList off v.cells.toList).toArray) (φ r) ho (fun k hk hne => q1 k fun e => hne c (by rw [e]; exact hφ)) (by omega) q3
    (fun b' c' o hb hS => by rw [hφ] at hb; simp only [Option.some.injEq, Prod.mk.injEq] at hb; rw [← hb.1] at hS; exact absurd hS (g4 o)) (.inl rfl)
    (.inl ⟨upd_same _ _ _, by simp [ho, hdr], fun _ => ⟨cs, ho⟩⟩) hrefs (fun hk => by
      refine ⟨b, c, _, e, fun j => (overL cur.toList off v.cells.toList).getD j undef, by rw [upd_same]; exact hφ, hh, ?_, g4, fun j hj => ?_, fun j hj => ?_⟩
      · simp only [List.size_toArray]
        rw [overL_length _ _ _ hsz, hl0]
        simpa using g3
      · rw [hl0] at hj
        have : j < (overL cur.toList off v.cells.toList).length := by rw [overL_length _ _ _ hsz]; simp; omega
        simp [this]
      · rw [hl0] at hj
        have e1 := overL_get cs off vs hle j
        have e2 := overL_get cur.toList off v.cells.toList hsz j
        have hj2 : j < (overL cs off vs).length := by rw [hl0]; exact hj
        rw [List.getElem?_eq_getElem hj2] at e1
        simp only [Array.length_toList, hs] at e2
        by_cases hin : off ≤ j ∧ j < off + vs.length
        · rw [if_pos hin, List.getElem?_eq_getElem (by omega)] at e1
          rw [if_pos hin] at e2
          obtain ⟨u, h1, h2, h3⟩ := h (j - off) (by omega)
          have h1' : v.cells.toList[j - off]? = some u := by simpa using h1
          simp only [Option.some.injEq] at e1
          rw [e1]
          refine ⟨h2, ?_⟩
          have := hk.rep (hc _ (List.getElem_mem (h := by omega))) h3
          simp only [List.getD_eq_getElem?_getD, e2, h1', Option.getD_some]
          exact this
        · rw [if_neg hin, List.getElem?_eq_getElem hj] at e1
          rw [if_neg hin] at e2
          simp only [Option.some.injEq] at e1
          rw [e1]
          refine ⟨(g6 j hj).1, ?_⟩
          have := hk.rep (a := cs[j]) (fun r' hr' => m.men r _ ho r' (by simpa [OB.refs] using AV.refs_mem cs j hj r' hr')) (g6 j hj).2
          have h1' : cur.toList[j]? = some (f j) := by simpa using g5 j hj
          simp only [List.getD_eq_getElem?_getD, e2, h1', Option.getD_some]
          exact this)
  have hu : upd φ r (φ r) = φ := by funext i; by_cases hi : i = r <;> simp [upd, hi]
  rw [hu] at this
  exact ⟨S, φ, this.1, this.2, .dead _, closed_dead _⟩

theorem D.cells_agg (cs : List D) : (D.agg cs).cells = cs := rfl
theorem D.cells_plain {x : D} (h : x.isAgg = false) : x.cells = [x] := by cases x <;> first | rfl | simp [D.isAgg] at h

theorem RepD.cells {x : D} {v : Value} (h : RepD S w x v) : v.cells.size = x.cells.length ∧ ∀ i (hi : i < x.cells.length), ∃ u, v.cells[i]? = some u ∧ x.cells[i].isAgg = false ∧ RepD S w x.cells[i] u := by
  by_cases hx : x.isAgg = true
  · cases x with
    | agg cs =>
      cases h with | agg _ vs f hs hf hn hr => exact ⟨by simp [Value.cells, hs, D.cells], fun i hi => ⟨f i, hf i hi, hn i hi, hr i hi⟩⟩
    | _ => simp [D.isAgg] at hx
  · have hx : x.isAgg = false := by simpa using hx
    have hv : v.cells = #[v] := by have := h.one hx; cases v <;> first | rfl | simp [Value.oneCell'] at this
    rw [D.cells_plain hx, hv]
    refine ⟨rfl, fun i hi => ⟨v, ?_, ?_, ?_⟩⟩
    · have : i = 0 := by simpa using hi
      simp [this]
    · simpa using hx
    · simpa using h

theorem RepD.norm {x : D} {v : Value} (h : RepD S w x v) : RepD S w x.norm v := by
  cases h with
  | val v h => exact .val v h
  | nil sz => exact .lst0 sz _ _
  | lst0 sz a cap => exact .lst0 sz a cap
  | lst sz es b o cap f hl hc hsz hS hn hr => exact .lst sz es b o cap f hl hc hsz hS hn hr
  | agg cs vs f hs hf hn hr =>
    refine .agg _ vs f (by simpa using hs) (fun i hi => hf i (by simpa using hi)) (fun i hi => ?_) fun i hi => ?_
    · have hi' : i < cs.length := by simpa using hi
      have := hn i hi'
      simp only [List.getElem_map]
      revert this
      cases cs[i] <;> simp [D.isAgg]
    · have hi' : i < cs.length := by simpa using hi
      have := hr i hi'
      simp only [List.getElem_map]
      revert this
      generalize cs[i] = y
      generalize f i = u
      cases y with
      | nil sz => intro h; cases h; exact .lst0 sz _ _
      | _ => intro h; exact h

theorem D.norm_cells_length (x : D) : x.norm.cells.length = x.cells.length := by
  cases x <;> simp [D.norm, D.cells]

/-- a store into a row's element -/
theorem store_row_sound (m : Mem E w S φ ob) {t r i k e sz : Nat} {es : List D} {x y : D} {v : Value} {b c : Nat} (hφ : φ r = some (b, c)) (ho : ob r = some (.row e sz es false)) (hi : (P.info? t).map (·.size) = some x.cells.length)
    (hx : RepD S w x v) (hl : i < es.length) (hle : k + x.cells.length ≤ sz) (hy : y.cells = overL es[i].cells k x.cells) :
    ∃ w', (Instr.storeAt t (.pointer (some ⟨b, i * sz + k, none⟩)) v).run P w = .ok () w' ∧ Post E w S φ ob .dead [(r, .row e sz (es.set i y) false)] undef w' := by
  obtain ⟨g0, g1, g2, g3⟩ := m.obj r _ ho
  rcases g3 with ⟨f1, _⟩ | ⟨b', cap, cur, f, f1, f2, f3, f4, f5, f6, f7, f8⟩
  · rw [hφ] at f1; simp at f1
  · rw [hφ] at f1
    simp only [Option.some.injEq, Prod.mk.injEq] at f1
    obtain ⟨rfl, rfl⟩ := f1
    obtain ⟨x1, x2⟩ := hx.cells
    have hrow : (i + 1) * sz ≤ c * sz := Nat.mul_le_mul_right _ (by omega)
    rw [Nat.add_mul] at hrow
    have h1 : ∀ u ∈ v.cells.toList, u.oneCell' = true := by
      intro u hu
      obtain ⟨j, hj, rfl⟩ := List.getElem_of_mem hu
      have hj' : j < x.cells.length := by simpa [x1] using hj
      obtain ⟨u, q1, q2, q3⟩ := x2 j hj'
      have : v.cells.toList[j]? = some u := by simpa using q1
      rw [List.getElem?_eq_getElem hj] at this
      rw [Option.some.inj this]
      exact q3.one q2
    have hszl : (i * sz + k) + v.cells.toList.length ≤ cur.toList.length := by simp; omega
    refine ⟨_, run_storeAt_row f2 (by rw [hi, x1]) (by omega) h1, ?_⟩
    obtain ⟨q1, q2, q3⟩ := setRow_kept w b (overL cur.toList (i * sz + k) v.cells.toList).toArray
    have hh := setRow_heap w b cur (overL cur.toList (i * sz + k) v.cells.toList).toArray e (0, 0) f2
    have hylen : y.cells.length = sz := by rw [hy, overL_length _ _ _ (by rw [g1 i hl]; exact hle), g1 i hl]
    have hes : ∀ j (hj : j < (es.set i y).length), (es.set i y)[j] = if i = j then y else es[j]'(by simpa using hj) := fun j hj => by rw [List.getElem_set]
    have hov := overL_get es[i].cells k x.cells (by rw [g1 i hl]; exact hle)
    have := m.set r _ (.row e sz (es.set i y) false) (w.setRow b (overL cur.toList (i * sz + k) v.cells.toList).toArray) (φ r) ho (fun k hk hne => q1 k fun e => hne c (by rw [e]; exact hφ)) (by omega) q3
      (fun b' c' o hb hS => by rw [hφ] at hb; simp only [Option.some.injEq, Prod.mk.injEq] at hb; rw [← hb.1] at hS; exact absurd hS (f8 o (by simp))) (.inl rfl)
      (.inl ⟨upd_same _ _ _, by simp [ho, hdr], fun h => by simp at h⟩) (fun r' hr' => by simp [OB.refs] at hr') (fun hk => by
        have yget : ∀ j (hj : j < y.cells.length), y.cells[j].isAgg = false ∧ ∃ u, (if k ≤ j ∧ j < k + x.cells.length then v.cells[j - k]? else some (f i j)) = some u ∧ RepD S (w.setRow b (overL cur.toList (i * sz + k) v.cells.toList).toArray) y.cells[j] u := by
          intro j hj
          have e1 := hov j
          rw [← hy, List.getElem?_eq_getElem hj] at e1
          by_cases hin : k ≤ j ∧ j < k + x.cells.length
          · rw [if_pos hin] at e1 ⊢
            rw [List.getElem?_eq_getElem (by omega)] at e1
            obtain ⟨u, p1, p2, p3⟩ := x2 (j - k) (by omega)
            rw [Option.some.inj e1]
            exact ⟨p2, u, p1, p3.mono hk.k⟩
          · rw [if_neg hin] at e1 ⊢
            rw [List.getElem?_eq_getElem (by rw [g1 i hl]; omega)] at e1
            rw [Option.some.inj e1]
            exact ⟨g2 i hl j (by rw [g1 i hl]; omega), f i j, rfl, (f7 i hl j (by rw [g1 i hl]; omega)).mono hk.k⟩
        refine ⟨g0, fun j hj => ?_, fun j hj l hl' => ?_, .inr ⟨b, c, _, fun j l => (overL cur.toList (i * sz + k) v.cells.toList).getD (j * sz + l) undef, by rw [upd_same]; exact hφ, hh, by simpa using f3, f4, ?_, fun j l hj hl' => ?_, fun j hj l hl' => ?_, fun o _ => f8 o (by simp)⟩⟩
        · rw [hes j hj]; split
          · exact hylen
          · exact g1 j _
        · have := hes j hj
          simp only [this] at hl' ⊢
          split at hl'
          · rename_i hij; simp only [hij, if_true]; exact (yget l hl').1
          · rename_i hij; simp only [hij, if_false]; exact g2 j _ l hl'
        · simp only [List.size_toArray]
          rw [overL_length _ _ _ hszl]
          simpa using f5
        · have hj' : j < es.length := by simpa using hj
          have : (j + 1) * sz ≤ c * sz := Nat.mul_le_mul_right _ (by omega)
          rw [Nat.add_mul] at this
          have hlt : j * sz + l < (overL cur.toList (i * sz + k) v.cells.toList).length := by rw [overL_length _ _ _ hszl]; simp; omega
          simp [hlt]
        · have hj' : j < es.length := by simpa using hj
          have hjj := hes j hj
          have e2 := overL_get cur.toList (i * sz + k) v.cells.toList hszl (j * sz + l)
          simp only [hjj] at hl' ⊢
          simp only [List.getD_eq_getElem?_getD, e2]
          by_cases hij : i = j
          · subst hij
            simp only [if_true] at hl' ⊢
            obtain ⟨_, u, p1, p2⟩ := yget l hl'
            simp only [Array.length_toList, x1]
            have hiff : (i * sz + k ≤ i * sz + l ∧ i * sz + l < i * sz + k + x.cells.length) ↔ (k ≤ l ∧ l < k + x.cells.length) := by omega
            by_cases hin : k ≤ l ∧ l < k + x.cells.length
            · rw [if_pos hin] at p1
              rw [if_pos (hiff.2 hin), show i * sz + l - (i * sz + k) = l - k by omega]
              have : v.cells.toList[l - k]? = some u := by simpa using p1
              rw [this]
              exact p2
            · rw [if_neg hin] at p1
              rw [if_neg (fun h => hin (hiff.1 h))]
              have : cur.toList[i * sz + l]? = some (f i l) := by simpa using f6 i l hl (by omega)
              rw [this]
              rw [Option.some.inj p1]
              exact p2
          · simp only [hij, if_false] at hl' ⊢
            have hl2 : l < sz := by rw [g1 j hj'] at hl'; exact hl'
            have hout : ¬ (i * sz + k ≤ j * sz + l ∧ j * sz + l < i * sz + k + v.cells.toList.length) := by
              simp only [Array.length_toList, x1]
              rcases Nat.lt_or_ge i j with h | h
              · have : (i + 1) * sz ≤ j * sz := Nat.mul_le_mul_right _ h
                rw [Nat.add_mul] at this
                omega
              · have : (j + 1) * sz ≤ i * sz := Nat.mul_le_mul_right _ (by omega)
                rw [Nat.add_mul] at this
                omega
            rw [if_neg hout]
            have : cur.toList[j * sz + l]? = some (f j l) := by simpa using f6 j l hj' hl2
            rw [this]
            exact (f7 j hj' l hl').mono hk.k)
    have hu : upd φ r (φ r) = φ := by funext i; by_cases hi : i = r <;> simp [upd, hi]
    rw [hu] at this
    exact ⟨S, φ, this.1, this.2, .dead _, closed_dead _⟩

/-! ### Data out of values -/
/-- 'ob'' is 'ob' but for rows that have been frozen -/
def FrzExt (ob ob' : Nat → Option OB) : Prop := ∀ r, ob' r = ob r ∨ ∃ e sz es f, ob r = some (.row e sz es f) ∧ ob' r = some (.row e sz es true)

theorem FrzExt.refl (ob : Nat → Option OB) : FrzExt ob ob := fun _ => .inl rfl

theorem FrzExt.row {ob ob' : Nat → Option OB} (h : FrzExt ob ob') {r e sz : Nat} {es : List D} {f : Bool} (hr : ob r = some (.row e sz es f)) : ∃ f', ob' r = some (.row e sz es f') := by
  rcases h r with h1 | ⟨e', sz', es', f', h1, h2⟩
  · exact ⟨f, h1.trans hr⟩
  · rw [hr] at h1
    simp only [Option.some.injEq, OB.row.injEq] at h1
    obtain ⟨rfl, rfl, rfl, rfl⟩ := h1
    exact ⟨true, h2⟩

theorem FrzExt.upd {ob ob' : Nat → Option OB} (h : FrzExt ob ob') {r e sz : Nat} {es : List D} {f : Bool} (hr : ob r = some (.row e sz es f)) : FrzExt ob (Go.AX.upd ob' r (some (.row e sz es true))) := by
  intro r'
  by_cases hh : r' = r
  · subst hh
    rw [upd_same]
    exact .inr ⟨e, sz, es, f, hr, rfl⟩
  · rw [upd_other _ _ _ _ hh]
    exact h r'

/-- what 'wr' writes: rows of 'ob', frozen -/
def FrzW (obl : List (Option OB)) (wr : W) : Prop := ∀ r o, (r, o) ∈ wr → ∃ e sz es f, obl.getD r none = some (.row e sz es f) ∧ o = .row e sz es true

theorem toD_sound {obl : List (Option OB)} (m : Mem E w S φ ob) (hx : FrzExt (fun r => obl.getD r none) ob) {a : AV} {v : Value} {K : D → W → Prop} (ha : RepA S w φ ob a v) (h : toD obl a K) :
    ∃ x wr S', K x wr ∧ Mem E w S' φ (updW ob wr) ∧ Kept w S φ ob w S' φ (updW ob wr) ∧ RepD S' w x v ∧ FrzExt (fun r => obl.getD r none) (updW ob wr) ∧ FrzW obl wr := by
  have own : ∀ {S : Sc} {ob : Nat → Option OB} (_ : Mem E w S φ ob) (_ : FrzExt (fun r => obl.getD r none) ob) {r n : Nat} {v : Value} {K : OB → Prop} (_ : RepA S w φ ob (.own r n) v) (_ : findO obl r K),
      ∃ o, K o ∧ ∀ e sz es f, o = .row e sz es f → n = es.length → ∃ S', Mem E w S' φ (upd ob r (some (.row e sz es true))) ∧ Kept w S φ ob w S' φ (upd ob r (some (.row e sz es true))) ∧ RepD S' w (.lst sz es) v ∧
        FrzExt (fun r => obl.getD r none) (upd ob r (some (.row e sz es true))) ∧ FrzW obl [(r, .row e sz es true)] := by
    intro S ob m hx r n v K ha h
    rw [findO_iff] at h
    obtain ⟨o, ho, hK⟩ := h
    refine ⟨o, hK, fun e sz es f hoe hn => ?_⟩
    subst hoe
    obtain ⟨f', hf'⟩ := hx.row ho
    obtain ⟨S', m', k', hd⟩ := m.freeze r e sz es f' hf'
    refine ⟨S', m', k', hd v ?_, hx.upd ho, fun r' o' hm => ?_⟩
    · cases ha with | own _ _ _ k c a0 hv hk h1 hb =>
        have := (h1 e sz es f' hf').2 hn
        rwa [← hn]
    · simp only [List.mem_singleton, Prod.mk.injEq] at hm
      obtain ⟨rfl, rfl⟩ := hm
      exact ⟨e, sz, es, f, ho, rfl⟩
  cases a <;> simp only [toD] at h
  case d x =>
    rw [normK_iff] at h
    cases ha with | d _ _ ha => exact ⟨_, [], S, h, m, .refl w S φ ob, ha.norm, hx, fun _ _ hm => by simp at hm⟩
  case own r n =>
    obtain ⟨o, hK, hh⟩ := own m hx ha h
    cases o with
    | box => simp at hK
    | map => simp at hK
    | row e sz es f =>
      simp only at hK
      obtain ⟨S', h1, h2, h3, h4, h5⟩ := hh e sz es f rfl hK.1
      exact ⟨_, _, S', hK.2, h1, h2, h3, h4, h5⟩
  case agg cs =>
    cases ha with | agg _ vs f hs hf hn hr =>
    have key : ∀ (cs : List AV) (off : Nat) (S : Sc) (ob : Nat → Option OB) (_ : Mem E w S φ ob) (_ : FrzExt (fun r => obl.getD r none) ob) (K : List D → W → Prop)
        (_ : ∀ i (hi : i < cs.length), RepA S w φ ob cs[i] (f (off + i))) (_ : toD.toDs obl cs K),
        ∃ l wr S', K l wr ∧ l.length = cs.length ∧ Mem E w S' φ (updW ob wr) ∧ Kept w S φ ob w S' φ (updW ob wr) ∧ (∀ i (hi : i < l.length), l[i].isAgg = false ∧ RepD S' w l[i] (f (off + i))) ∧
          FrzExt (fun r => obl.getD r none) (updW ob wr) ∧ FrzW obl wr := by
      intro cs
      induction cs with
      | nil => intro off S ob m hx K _ h; exact ⟨[], [], S, h, rfl, m, .refl w S φ ob, fun i hi => by simp at hi, hx, fun _ _ hm => by simp at hm⟩
      | cons c cs ih =>
        intro off S ob m hx K hr h
        have h0 := hr 0 (by simp)
        simp only [List.getElem_cons_zero, Nat.add_zero] at h0
        have hr' : ∀ i (hi : i < cs.length), RepA S w φ ob cs[i] (f (off + 1 + i)) := fun i hi => by
          have := hr (i + 1) (by simpa using hi)
          simpa [Nat.add_assoc, Nat.add_comm 1 i] using this
        have fin : ∀ (x : D) (l : List D) (S' : Sc), x.isAgg = false → RepD S' w x (f off) → (∀ i (hi : i < l.length), l[i].isAgg = false ∧ RepD S' w l[i] (f (off + 1 + i))) →
            ∀ i (hi : i < (x :: l).length), (x :: l)[i].isAgg = false ∧ RepD S' w (x :: l)[i] (f (off + i)) := by
          intro x l S' h1 h2 h3 i hi
          cases i with
          | zero => exact ⟨h1, h2⟩
          | succ i =>
            have := h3 i (by simpa using hi)
            simpa [Nat.add_assoc, Nat.add_comm 1 i] using this
        cases c <;> simp only [toD.toDs] at h
        case d x =>
          cases h0 with | d _ _ h0 =>
          have h0n := h0.norm
          cases x with
          | agg l => simp at h
          | val u =>
            simp only at h
            obtain ⟨l, wr, S', a1, a2, a3, a4, a5, a6, a7⟩ := ih (off + 1) S ob m hx _ hr' h
            exact ⟨_, wr, S', a1, by simp [a2], a3, a4, fin _ _ _ rfl (h0n.mono a4.k) a5, a6, a7⟩
          | nil u =>
            simp only at h
            obtain ⟨l, wr, S', a1, a2, a3, a4, a5, a6, a7⟩ := ih (off + 1) S ob m hx _ hr' h
            exact ⟨_, wr, S', a1, by simp [a2], a3, a4, fin _ _ _ rfl (h0n.mono a4.k) a5, a6, a7⟩
          | lst u v =>
            simp only at h
            obtain ⟨l, wr, S', a1, a2, a3, a4, a5, a6, a7⟩ := ih (off + 1) S ob m hx _ hr' h
            exact ⟨_, wr, S', a1, by simp [a2], a3, a4, fin _ _ _ rfl (h0n.mono a4.k) a5, a6, a7⟩
        case own r n =>
          obtain ⟨o, hK, hh⟩ := own m hx h0 h
          cases o with
          | box => simp at hK
          | map => simp at hK
          | row e sz es fz =>
            simp only at hK
            obtain ⟨S1, b1, b2, b3, b4, b5⟩ := hh e sz es fz rfl hK.1
            have hm1 : ∀ i (hi : i < cs.length), RepA S1 w φ (upd ob r (some (.row e sz es true))) cs[i] (f (off + 1 + i)) := fun i hi =>
              (hr' i hi).mono b2.k fun r' hr'' => by
                by_cases hn0 : ob r' = none
                · by_cases hrr : r' = r
                  · subst hrr
                    rw [findO_iff] at h
                    obtain ⟨o', ho', hK'⟩ := h
                    have := hx.row (r := r') (e := e) (sz := sz) (es := es) (f := fz)
                    cases o' with
                    | box => simp at hK'
                    | map => simp at hK'
                    | row e' sz' es' f' =>
                      obtain ⟨f'', hf''⟩ := hx.row ho'
                      rw [hn0] at hf''; simp at hf''
                  · refine .inl ⟨rfl, ?_, ?_⟩ <;> rw [upd_other _ _ _ _ hrr]
                    exact id
                · exact b2.r r' hn0
            obtain ⟨l, wr, S', a1, a2, a3, a4, a5, a6, a7⟩ := ih (off + 1) S1 _ b1 b4 _ hm1 hK.2
            refine ⟨_, (r, .row e sz es true) :: wr, S', a1, by simp [a2], a3, b2.trans a4, fin _ _ _ rfl (b3.mono a4.k) a5, a6, fun r' o' hm => ?_⟩
            simp only [List.mem_cons] at hm
            rcases hm with hm | hm
            · exact b5 r' o' (by simp [hm])
            · exact a7 r' o' hm
    obtain ⟨l, wr, S', a1, a2, a3, a4, a5, a6, a7⟩ := key cs 0 S ob m hx _ (fun i hi => by simpa using hr i hi) h
    refine ⟨_, wr, S', a1, a3, a4, .agg l vs f (by omega) (fun i hi => hf i (by omega)) (fun i hi => (a5 i hi).1) (fun i hi => by simpa using (a5 i hi).2), a6, a7⟩
end
end Go.AX
