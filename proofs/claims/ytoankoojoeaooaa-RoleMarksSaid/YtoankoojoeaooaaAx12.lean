/-
  AX, part 12: an operation and its operands' references.
-/
import Derived.Test.YtoankoojoeaooaaAx11
namespace Go.AX

def fpOf (np : Nat) (o : Oper) (av : Operand → AV) : List Nat :=
  (match opRW o.op with
    | true => [np + o.dst.getD 0]
    | false => []) ++ (opRefs o.op).flatMap fun x => (av x).refs

def Ox (cx : Cx) (o : Oper) (av : Operand → AV) (ob : List (Option OB)) (K : AV → W → Prop) : Prop :=
  ∃ v w, K v w ∧ (opRW o.op = false → w = []) ∧ (∀ q ∈ w, q.1 ∈ fpOf cx.np o av) ∧
    ∀ av' ob', (∀ x ∈ o.op.operands.toList, av' x = av x) → Agree (fpOf cx.np o av) ob ob' → ∀ K' : AV → W → Prop, K' v w → opK cx o av' ob' K'

theorem Ox.pure {cx : Cx} {o : Oper} {av : Operand → AV} {ob : List (Option OB)} {K : AV → W → Prop} (v : AV) (hK : K v [])
    (h : ∀ av' ob', (∀ x ∈ o.op.operands.toList, av' x = av x) → Agree (fpOf cx.np o av) ob ob' → ∀ K' : AV → W → Prop, K' v [] → opK cx o av' ob' K') : Ox cx o av ob K :=
  ⟨v, [], hK, fun _ => rfl, fun q hq => by simp at hq, h⟩

theorem fp_opd {np : Nat} {o : Oper} {av : Operand → AV} {x : Operand} (hx : x ∈ o.op.operands.toList) (hf : opRefs o.op = o.op.operands.toList) : ∀ r ∈ (av x).refs, r ∈ fpOf np o av := fun _ hr =>
  List.mem_append_right _ (List.mem_flatMap.2 ⟨x, hf ▸ hx, hr⟩)

theorem fp_self {np : Nat} {o : Oper} {av : Operand → AV} (h : opRW o.op = true) : np + o.dst.getD 0 ∈ fpOf np o av := by
  unfold fpOf; rw [h]; simp

theorem parts_congr {av av' : Operand → AV} : ∀ (l : List (Nat × Operand)), (∀ x ∈ l.map (·.2), av' x = av x) → (l.map fun (i, x) => (i, av' x)) = l.map fun (i, x) => (i, av x)
  | [], _ => rfl
  | (i, x) :: l, h => by
    simp only [List.map_cons, List.mem_cons, forall_eq_or_imp] at h ⊢
    rw [h.1, parts_congr l h.2]

theorem refsL_mem {as : List AV} {r : Nat} : r ∈ AV.refs.refsL as ↔ ∃ a ∈ as, r ∈ a.refs := by
  induction as with
  | nil => simp [AV.refs.refsL]
  | cons a l ih => simp [AV.refs.refsL, ih]

theorem refs_partL {av : Operand → AV} {r : Nat} : ∀ {l : List (Nat × Operand)}, r ∈ AV.refs.refsL ((l.map fun (i, x) => (i, av x)).map (·.2)) → ∃ x ∈ l.map (·.2), r ∈ (av x).refs
  | [], h => by simp [AV.refs.refsL] at h
  | (i, x) :: l, h => by
    simp only [List.map_cons, AV.refs.refsL, List.mem_append] at h
    rcases h with h | h
    · exact ⟨x, by simp, h⟩
    · obtain ⟨y, hy, h⟩ := refs_partL h
      exact ⟨y, by simp only [List.map_cons, List.mem_cons]; exact .inr hy, h⟩

theorem nilT_refs {T : TT} {t : Nat} {a : AV} : ∀ r ∈ (nilT T t a).refs, r ∈ a.refs := by
  intro r hr
  unfold nilT at hr
  split at hr
  · split at hr
    · simp [AV.refs] at hr
    · exact hr
  · exact hr

theorem argsT_congr {T : TT} {av av' : Operand → AV} : ∀ (l : List Operand) (ts : List Nat), (∀ x ∈ l, av' x = av x) → argsT T av' l ts = argsT T av l ts
  | [], ts, _ => by simp [argsT]
  | x :: xs, [], h => by
    simp only [argsT]
    exact List.map_congr_left h
  | x :: xs, t :: ts, h => by
    simp only [argsT]
    rw [h x (by simp), argsT_congr xs ts fun y hy => h y (by simp [hy])]

theorem argsT_refs {T : TT} {av : Operand → AV} {a : AV} : ∀ {l : List Operand} {ts : List Nat}, a ∈ argsT T av l ts → ∃ x ∈ l, ∀ r ∈ a.refs, r ∈ (av x).refs
  | [], ts, h => by simp [argsT] at h
  | x :: xs, [], h => by
    simp only [argsT] at h
    obtain ⟨y, hy, rfl⟩ := List.mem_map.1 h
    exact ⟨y, hy, fun r hr => hr⟩
  | x :: xs, t :: ts, h => by
    simp only [argsT, List.mem_cons] at h
    rcases h with rfl | h
    · exact ⟨x, by simp, nilT_refs⟩
    · obtain ⟨y, hy, hr⟩ := argsT_refs h
      exact ⟨y, by simp [hy], hr⟩

theorem opK_x {cx : Cx} {o : Oper} {av : Operand → AV} {ob : List (Option OB)} {K : AV → W → Prop} (h : opK cx o av ob K) : Ox cx o av ob K := by
  have self : ∀ {ob' : List (Option OB)}, opRW o.op = true → Agree (fpOf cx.np o av) ob ob' → ob'[cx.np + o.dst.getD 0]? = ob[cx.np + o.dst.getD 0]? := fun hr ha => ha _ (fp_self hr)
  have opd : ∀ {ob' : List (Option OB)} (x : Operand), x ∈ o.op.operands.toList → opRefs o.op = o.op.operands.toList → Agree (fpOf cx.np o av) ob ob' → Agree (av x).refs ob ob' := fun x hx hf ha => ha.mono (fp_opd hx hf)
  unfold opK at h
  split at h <;> rename_i heq
  -- move, assign
  · rename_i x
    split at h
    · rename_i cv
      obtain ⟨v, w, h1, h2, h3⟩ := moveK_x h
      have hrw : opRW o.op = true := by rw [heq]; rfl
      refine ⟨v, w, h1, fun e => by rw [hrw] at e; simp at e, fun q hq => by rw [h2 q hq]; exact fp_self hrw, fun av' ob' hav ha K' hK => ?_⟩
      unfold opK; rw [heq]
      simp only
      rw [hav (.const cv) (by rw [heq]; simp [Op.operands])]
      exact h3 ob' (self hrw ha) _ hK
    · rename_i hnc
      obtain ⟨v, h1, h2⟩ := force_x h
      refine .pure v h1 fun av' ob' hav ha K' hK => ?_
      unfold opK; rw [heq]
      simp only
      rw [hav x (by rw [heq]; simp [Op.operands])]
      exact h2 (fun v => K' v []) hK
  · rename_i x
    split at h
    · rename_i cv
      obtain ⟨v, w, h1, h2, h3⟩ := moveK_x h
      have hrw : opRW o.op = true := by rw [heq]; rfl
      refine ⟨v, w, h1, fun e => by rw [hrw] at e; simp at e, fun q hq => by rw [h2 q hq]; exact fp_self hrw, fun av' ob' hav ha K' hK => ?_⟩
      unfold opK; rw [heq]
      simp only
      rw [hav (.const cv) (by rw [heq]; simp [Op.operands])]
      exact h3 ob' (self hrw ha) _ hK
    · rename_i hnc
      obtain ⟨v, h1, h2⟩ := force_x h
      refine .pure v h1 fun av' ob' hav ha K' hK => ?_
      unfold opK; rw [heq]
      simp only
      rw [hav x (by rw [heq]; simp [Op.operands])]
      exact h2 (fun v => K' v []) hK
  -- pick
  · rename_i c a b
    obtain ⟨v, h1, h2⟩ := pickK_x h
    refine .pure v h1 fun av' ob' hav ha K' hK => ?_
    unfold opK; rw [heq]; simp only
    rw [hav c (by rw [heq]; simp [Op.operands]), hav a (by rw [heq]; simp [Op.operands]), hav b (by rw [heq]; simp [Op.operands])]
    exact h2 (fun v => K' v []) hK
  -- alloc
  · rename_i t
    have hrw : opRW o.op = true := by rw [heq]; rfl
    rw [onlyIf_iff] at h
    obtain ⟨hk, h⟩ := h
    have h0 := h
    rw [noO_iff] at h
    refine ⟨_, _, h.2, fun e => by rw [hrw] at e; simp at e, fun q hq => by simp only [List.mem_singleton] at hq; rw [hq]; exact fp_self hrw, fun av' ob' hav ha K' hK => ?_⟩
    unfold opK; rw [heq]; simp only
    exact (onlyIf_iff _ _).2 ⟨hk, noO_x h0 (self hrw ha) hK⟩
  -- box
  · rename_i t x
    have hrw : opRW o.op = true := by rw [heq]; rfl
    have h0 := h
    rw [noO_iff, cellsK_iff] at h
    obtain ⟨hs, l, hl, h⟩ := h
    rw [onlyIf_iff] at h
    refine ⟨_, _, h.2, fun e => by rw [hrw] at e; simp at e, fun q hq => by simp only [List.mem_singleton] at hq; rw [hq]; exact fp_self hrw, fun av' ob' hav ha K' hK => ?_⟩
    unfold opK; rw [heq]; simp only
    refine noO_x h0 (self hrw ha) ?_
    rw [hav x (by rw [heq]; simp [Op.operands]), cellsK_iff]
    exact ⟨l, hl, (onlyIf_iff _ _).2 ⟨h.1, hK⟩⟩
  -- build
  · rename_i t ps
    obtain ⟨v, h1, h2⟩ := buildK_x h
    refine .pure v h1 fun av' ob' hav ha K' hK => ?_
    unfold opK; rw [heq]; simp only
    rw [parts_congr (av := av) ps.toList fun x hx => hav x (by rw [heq]; simpa [Op.operands] using hx)]
    exact h2 (fun v => K' v []) hK
  -- buildSlice
  · rename_i t len ps
    have hrw : opRW o.op = true := by rw [heq]; rfl
    obtain ⟨v, w, h1, h2, h3⟩ := buildSliceK_x h
    have hfp : ∀ r ∈ (cx.np + o.dst.getD 0) :: AV.refs.refsL ((ps.toList.map fun (i, x) => (i, av x)).map (·.2)), r ∈ fpOf cx.np o av := by
      intro r hr
      rcases List.mem_cons.1 hr with hr | hr
      · rw [hr]; exact fp_self hrw
      · obtain ⟨x, hx, hr⟩ := refs_partL hr
        exact fp_opd (by rw [heq]; simpa [Op.operands] using hx) (by rw [heq]; rfl) r hr
    refine ⟨v, w, h1, fun e => by rw [hrw] at e; simp at e, fun q hq => hfp _ (h2 q hq), fun av' ob' hav ha K' hK => ?_⟩
    unfold opK; rw [heq]; simp only
    rw [parts_congr (av := av) ps.toList fun x hx => hav x (by rw [heq]; simpa [Op.operands] using hx)]
    exact h3 ob' (ha.mono hfp) _ hK
  -- load
  · rename_i t x
    obtain ⟨v, h1, h2⟩ := loadK_x h
    refine .pure v h1 fun av' ob' hav ha K' hK => ?_
    unfold opK; rw [heq]; simp only
    rw [hav x (by rw [heq]; simp [Op.operands])]
    exact h2 ob' (opd x (by rw [heq]; simp [Op.operands]) (by rw [heq]; rfl) ha) (fun v => K' v []) hK
  -- store
  · rename_i t a x
    have hrw : opRW o.op = true := by rw [heq]; rfl
    obtain ⟨v, w, h1, h2, h3⟩ := storeK_x h
    refine ⟨v, w, h1, fun e => by rw [hrw] at e; simp at e, fun q hq => fp_opd (x := a) (by rw [heq]; simp [Op.operands]) (by rw [heq]; rfl) _ (h2 q hq), fun av' ob' hav ha K' hK => ?_⟩
    unfold opK; rw [heq]; simp only
    rw [hav a (by rw [heq]; simp [Op.operands]), hav x (by rw [heq]; simp [Op.operands])]
    exact h3 ob' (opd a (by rw [heq]; simp [Op.operands]) (by rw [heq]; rfl) ha) _ hK
  -- nilCheck
  · rename_i x
    split at h
    all_goals first | exact h.elim | skip
    all_goals
      rename_i hx
      refine .pure _ h fun av' ob' hav ha K' hK => ?_
      unfold opK; rw [heq]; simp only
      rw [hav x (by rw [heq]; simp [Op.operands]), hx]
      exact hK
  -- binOp
  · rename_i op t x y _
    obtain ⟨v, h1, h2⟩ := binK_x h
    refine .pure v h1 fun av' ob' hav ha K' hK => ?_
    unfold opK; rw [heq]; simp only
    rw [hav x (by rw [heq]; simp [Op.operands]), hav y (by rw [heq]; simp [Op.operands])]
    exact h2 (fun v => K' v []) hK
  -- unOp
  · rename_i op t x
    obtain ⟨v, h1, h2⟩ := unK_x h
    refine .pure v h1 fun av' ob' hav ha K' hK => ?_
    unfold opK; rw [heq]; simp only
    rw [hav x (by rw [heq]; simp [Op.operands])]
    exact h2 (fun v => K' v []) hK
  -- convert
  · rename_i src dst x
    obtain ⟨v, h1, h2⟩ := convK_x h
    refine .pure v h1 fun av' ob' hav ha K' hK => ?_
    unfold opK; rw [heq]; simp only
    rw [hav x (by rw [heq]; simp [Op.operands])]
    exact h2 ob' (opd x (by rw [heq]; simp [Op.operands]) (by rw [heq]; rfl) ha) (fun v => K' v []) hK
  -- fieldAddr
  · rename_i t x i
    obtain ⟨a, b, c, h, hf⟩ := fieldOff_x h
    split at h
    · rename_i r off hx
      refine .pure _ h fun av' ob' hav ha K' hK => ?_
      unfold opK; rw [heq]; simp only
      rw [hav x (by rw [heq]; simp [Op.operands]), hx]
      exact hf _ hK
    · rename_i cs hx
      rw [dropK_iff, takeK_iff] at h
      refine .pure _ h fun av' ob' hav ha K' hK => ?_
      unfold opK; rw [heq]; simp only
      rw [hav x (by rw [heq]; simp [Op.operands]), hx]
      refine hf _ ?_
      simp only
      rw [dropK_iff, takeK_iff]
      exact hK
    · rename_i r n i k hx
      obtain ⟨q, h, ho⟩ := findO_x h
      cases q with
      | box => exact h.elim
      | map => exact h.elim
      | row e sz es f =>
        refine .pure _ h.2 fun av' ob' hav ha K' hK => ?_
        unfold opK; rw [heq]; simp only
        rw [hav x (by rw [heq]; simp [Op.operands]), hx]
        exact hf _ (ho ob' (opd x (by rw [heq]; simp [Op.operands]) (by rw [heq]; rfl) ha r (by rw [hx]; simp [AV.refs])) _ ⟨h.1, hK⟩)
    · exact h.elim
  -- field
  · rename_i t x i
    obtain ⟨v, h1, h2⟩ := fieldK_x h
    refine .pure v h1 fun av' ob' hav ha K' hK => ?_
    unfold opK; rw [heq]; simp only
    rw [hav x (by rw [heq]; simp [Op.operands])]
    exact h2 (fun v => K' v []) hK
  -- indexAddr
  · rename_i t x y
    obtain ⟨v, h1, h2⟩ := indexAddrK_x h
    refine .pure v h1 fun av' ob' hav ha K' hK => ?_
    unfold opK; rw [heq]; simp only
    rw [hav x (by rw [heq]; simp [Op.operands]), hav y (by rw [heq]; simp [Op.operands])]
    exact h2 ob' (opd x (by rw [heq]; simp [Op.operands]) (by rw [heq]; rfl) ha) (fun v => K' v []) hK
  -- index
  · rename_i t x y
    obtain ⟨v, h1, h2⟩ := indexK_x h
    refine .pure v h1 fun av' ob' hav ha K' hK => ?_
    unfold opK; rw [heq]; simp only
    rw [hav x (by rw [heq]; simp [Op.operands]), hav y (by rw [heq]; simp [Op.operands])]
    exact h2 (fun v => K' v []) hK
  -- makeMap
  · rename_i t
    have hrw : opRW o.op = true := by rw [heq]; rfl
    split at h
    · rename_i k e hk
      have h0 := h
      rw [noO_iff] at h
      obtain ⟨_, h⟩ := h
      refine ⟨_, _, h, fun e => by rw [hrw] at e; simp at e, fun q hq => by simp only [List.mem_singleton] at hq; rw [hq]; exact fp_self hrw, fun av' ob' hav ha K' hK => ?_⟩
      unfold opK; rw [heq]; simp only [hk]
      exact noO_x h0 (self hrw ha) hK
    · exact h.elim
  -- lookup
  · rename_i t x y ok
    obtain ⟨v, h1, h2⟩ := lookK_x h
    refine .pure v h1 fun av' ob' hav ha K' hK => ?_
    unfold opK; rw [heq]; simp only
    rw [hav x (by rw [heq]; simp [Op.operands]), hav y (by rw [heq]; simp [Op.operands])]
    exact h2 ob' (opd x (by rw [heq]; simp [Op.operands]) (by rw [heq]; rfl) ha) (fun v => K' v []) hK
  -- mapUpdate, insert
  · rename_i t mm k v
    have hrw : opRW o.op = true := by rw [heq]; rfl
    obtain ⟨u, w, h1, h2, h3⟩ := mapSetK_x h
    have hfp : ∀ r ∈ (av mm).refs ++ (av v).refs, r ∈ fpOf cx.np o av := by
      intro r hr
      rcases List.mem_append.1 hr with hr | hr
      · exact fp_opd (x := mm) (by rw [heq]; simp [Op.operands]) (by rw [heq]; rfl) r hr
      · exact fp_opd (x := v) (by rw [heq]; simp [Op.operands]) (by rw [heq]; rfl) r hr
    refine ⟨u, w, h1, fun e => by rw [hrw] at e; simp at e, fun q hq => hfp _ (h2 q hq), fun av' ob' hav ha K' hK => ?_⟩
    unfold opK; rw [heq]; simp only
    rw [hav mm (by rw [heq]; simp [Op.operands]), hav k (by rw [heq]; simp [Op.operands]), hav v (by rw [heq]; simp [Op.operands])]
    exact h3 ob' (ha.mono hfp) _ hK
  · rename_i t mm k v
    have hrw : opRW o.op = true := by rw [heq]; rfl
    obtain ⟨u, w, h1, h2, h3⟩ := mapSetK_x h
    have hfp : ∀ r ∈ (av mm).refs ++ (av v).refs, r ∈ fpOf cx.np o av := by
      intro r hr
      rcases List.mem_append.1 hr with hr | hr
      · exact fp_opd (x := mm) (by rw [heq]; simp [Op.operands]) (by rw [heq]; rfl) r hr
      · exact fp_opd (x := v) (by rw [heq]; simp [Op.operands]) (by rw [heq]; rfl) r hr
    refine ⟨u, w, h1, fun e => by rw [hrw] at e; simp at e, fun q hq => hfp _ (h2 q hq), fun av' ob' hav ha K' hK => ?_⟩
    unfold opK; rw [heq]; simp only
    rw [hav mm (by rw [heq]; simp [Op.operands]), hav k (by rw [heq]; simp [Op.operands]), hav v (by rw [heq]; simp [Op.operands])]
    exact h3 ob' (ha.mono hfp) _ hK
  -- slice
  · rename_i t x lo hi
    have hrw : opRW o.op = true := by rw [heq]; rfl
    obtain ⟨v, w, h1, h2, h3⟩ := sliceK_x h
    have hfp : ∀ r ∈ (nilT cx.T t (av x)).refs, r ∈ fpOf cx.np o av := by
      intro r hr
      refine fp_opd (x := x) (by rw [heq]; simp [Op.operands]) (by rw [heq]; rfl) r ?_
      unfold nilT at hr
      split at hr
      · split at hr
        · simp [AV.refs] at hr
        · exact hr
      · exact hr
    refine ⟨v, w, h1, fun e => by rw [hrw] at e; simp at e, fun q hq => hfp _ (h2 q hq), fun av' ob' hav ha K' hK => ?_⟩
    unfold opK; rw [heq]; simp only
    have e1 : nilT cx.T t (av' x) = nilT cx.T t (av x) := by rw [hav x (by rw [heq]; simp [Op.operands])]
    have e2 : lo.map av' = lo.map av := by
      cases lo with
      | none => rfl
      | some y => simp only [Option.map_some]; rw [hav y (by rw [heq]; simp [Op.operands])]
    have e3 : hi.map av' = hi.map av := by
      cases hi with
      | none => rfl
      | some y => simp only [Option.map_some]; rw [hav y (by rw [heq]; simp [Op.operands])]
    rw [e1, e2, e3]
    exact h3 ob' (ha.mono hfp) _ hK
  -- makeSlice
  · rename_i t n c
    have hrw : opRW o.op = true := by rw [heq]; rfl
    unfold makeK at h
    split at h
    · rename_i e n' c' hk hn hc
      have h0 := h
      rw [noO_iff] at h
      obtain ⟨_, h⟩ := h
      rw [onlyIf_iff] at h
      obtain ⟨h1, hb, z, hz, zs, hzs, h⟩ := h
      refine ⟨_, _, h, fun e => by rw [hrw] at e; simp at e, fun q hq => by simp only [List.mem_singleton] at hq; rw [hq]; exact fp_self hrw, fun av' ob' hav ha K' hK => ?_⟩
      unfold opK; rw [heq]; simp only
      unfold makeK
      rw [hav n (by rw [heq]; simp [Op.operands]), hav c (by rw [heq]; simp [Op.operands]), hk, hn, hc]
      simp only
      refine noO_x h0 (self hrw ha) ?_
      exact (onlyIf_iff _ _).2 ⟨h1, hb, z, hz, zs, hzs, hK⟩
    · exact h.elim
  -- extract
  · rename_i x i
    split at h
    · rename_i vs hx
      split at h
      · rename_i a hi
        obtain ⟨v, h1, h2⟩ := force_x h
        refine .pure v h1 fun av' ob' hav ha K' hK => ?_
        unfold opK; rw [heq]; simp only
        rw [hav x (by rw [heq]; simp [Op.operands]), hx]
        simp only [hi]
        exact h2 (fun v => K' v []) hK
      · exact h.elim
    · exact h.elim
  -- makeFunc
  · rename_i f first caps
    split at h
    · rename_i hf
      refine .pure _ h fun av' ob' hav ha K' hK => ?_
      unfold opK; rw [heq]; simp only [hf]
      rw [List.map_congr_left (g := av) fun x hx => hav x (by rw [heq]; simp only [Op.operands, Array.toList_append, List.mem_append]; exact .inr hx)]
      exact hK
    · exact h.elim
  -- call
  · rename_i c
    split at h
    · rename_i x hc
      have hops : o.op.operands.toList = x :: c.args.toList := by rw [heq]; simp [Op.operands, Call.operands, hc]
      have hrw : opRW o.op = true := by rw [heq]; simp [opRW, hc]
      split at h
      · rename_i f caps hx
        obtain ⟨v, w, h1, h2, h3⟩ := callK_x h
        have hfp : ∀ r ∈ (cx.np + o.dst.getD 0) :: AV.refs.refsL (argsT cx.T av c.args.toList c.argTypes.toList ++ caps), r ∈ fpOf cx.np o av := by
          intro r hr
          rcases List.mem_cons.1 hr with hr | hr
          · rw [hr]; exact fp_self hrw
          · obtain ⟨a, ha, hr⟩ := refsL_mem.1 hr
            rcases List.mem_append.1 ha with ha | ha
            · obtain ⟨y, hy, hr2⟩ := argsT_refs ha
              exact fp_opd (x := y) (by rw [hops]; simp only [List.mem_cons]; exact .inr hy) (by rw [heq]; rfl) r (hr2 r hr)
            · exact fp_opd (x := x) (by rw [hops]; simp) (by rw [heq]; rfl) r (by rw [hx]; simp only [AV.refs]; exact refsL_mem.2 ⟨a, ha, hr⟩)
        refine ⟨v, w, h1, fun e => by rw [hrw] at e; simp at e, fun q hq => hfp _ (h2 q hq), fun av' ob' hav ha K' hK => ?_⟩
        unfold opK; rw [heq]; simp only [hc]
        rw [hav x (by rw [hops]; simp), hx, argsT_congr (av := av) _ _ fun y hy => hav y (by rw [hops]; simp only [List.mem_cons]; exact .inr hy)]
        exact h3 ob' (ha.mono hfp) _ hK
      · exact h.elim
    · rename_i hc
      have hops : o.op.operands.toList = c.args.toList := by rw [heq]; simp [Op.operands, Call.operands, hc]
      split at h
      · rename_i x t hx ht
        obtain ⟨v, h1, h2⟩ := lenK_x h
        refine .pure v h1 fun av' ob' hav ha K' hK => ?_
        unfold opK; rw [heq]; simp only [hc, hx, ht]
        rw [hav x (by rw [hops, hx]; simp)]
        exact h2 (fun v => K' v []) hK
      · exact h.elim
    · rename_i hc
      have hops : o.op.operands.toList = c.args.toList := by rw [heq]; simp [Op.operands, Call.operands, hc]
      have hrw : opRW o.op = true := by rw [heq]; simp [opRW, hc]
      split at h
      · rename_i x y t u hx ht
        rw [onlyIf_iff] at h
        obtain ⟨h0, h⟩ := h
        obtain ⟨v, w, h1, h2, h3⟩ := appendK_x h
        have hfp : ∀ r ∈ (cx.np + o.dst.getD 0) :: ((nilT cx.T t (av x)).refs ++ (nilT cx.T t (av y)).refs), r ∈ fpOf cx.np o av := by
          intro r hr
          rcases List.mem_cons.1 hr with hr | hr
          · rw [hr]; exact fp_self hrw
          · rcases List.mem_append.1 hr with hr | hr
            · exact fp_opd (x := x) (by rw [hops, hx]; simp) (by rw [heq]; rfl) r (nilT_refs r hr)
            · exact fp_opd (x := y) (by rw [hops, hx]; simp) (by rw [heq]; rfl) r (nilT_refs r hr)
        refine ⟨v, w, h1, fun e => by rw [hrw] at e; simp at e, fun q hq => hfp _ (h2 q hq), fun av' ob' hav ha K' hK => ?_⟩
        unfold opK; rw [heq]; simp only [hc, hx, ht]
        rw [hav x (by rw [hops, hx]; simp), hav y (by rw [hops, hx]; simp)]
        exact (onlyIf_iff _ _).2 ⟨h0, h3 ob' (ha.mono hfp) _ hK⟩
      · exact h.elim
    · rename_i hc
      have hops : o.op.operands.toList = c.args.toList := by rw [heq]; simp [Op.operands, Call.operands, hc]
      split at h
      · rename_i x y hx
        obtain ⟨v, h1, h2⟩ := maxK_x h
        refine .pure v h1 fun av' ob' hav ha K' hK => ?_
        unfold opK; rw [heq]; simp only [hc, hx]
        rw [hav x (by rw [hops, hx]; simp), hav y (by rw [hops, hx]; simp)]
        exact h2 (fun v => K' v []) hK
      · exact h.elim
    · rename_i hc
      have hops : o.op.operands.toList = c.args.toList := by rw [heq]; simp [Op.operands, Call.operands, hc]
      split at h
      · rename_i x y hx
        obtain ⟨v, h1, h2⟩ := minK_x h
        refine .pure v h1 fun av' ob' hav ha K' hK => ?_
        unfold opK; rw [heq]; simp only [hc, hx]
        rw [hav x (by rw [hops, hx]; simp), hav y (by rw [hops, hx]; simp)]
        exact h2 (fun v => K' v []) hK
      · exact h.elim
    · exact h.elim
  · exact h.elim

end Go.AX
