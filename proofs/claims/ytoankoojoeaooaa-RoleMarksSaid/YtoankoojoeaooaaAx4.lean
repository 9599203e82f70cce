/-
  AX, part 4: the operations that only compute; literals; append.
-/
import Derived.Test.YtoankoojoeaooaaAx3
namespace Go.AX
section
variable {P : Program} {T : TT} {E : Env} {w : World} {S : Sc} {φ : Nat → Option (Nat × Nat)} {ob : Nat → Option OB}

/-- the outcome is a scalar -/
def ScalarOut (K : AV → Prop) (r : Result Value) (w : World) : Prop := ∃ u : Value, u.oneCell' = true ∧ K (.d (.val u)) ∧ r = .ok u w

theorem eqGuard_int (op : BinOp) (t : Nat) (x y : Operand) (k k' : IntKind) (a b : Int) : (eqGuard op t x y (.int k a) (.int k' b)).run P w = .ok () w := by
  cases op <;> rfl
theorem eqGuard_str (op : BinOp) (t : Nat) (x y : Operand) (a b : ByteArray) : (eqGuard op t x y (.string a) (.string b)).run P w = .ok () w := by
  cases op <;> rfl
theorem eqGuard_bool (op : BinOp) (t : Nat) (x y : Operand) (a b : Bool) : (eqGuard op t x y (.bool a) (.bool b)).run P w = .ok () w := by
  cases op <;> rfl

theorem KindOk.structF {t : Nat} {fs : List (Nat × Nat × Nat)} (h : KindOk P t (.struct fs)) : P.stoodInHeld t = false ∧ P.eqGuardType P.depth t = false ∧
    P.underlying t = some (.struct (P.fieldsOf t)) ∧ (P.fieldsOf t).toList.map (fun f => (f.offset, (P.info? f.type).map (·.size), f.type)) = fs.map (fun x => (x.1, some x.2.1, x.2.2)) ∧ ∀ f ∈ (P.fieldsOf t).toList, f.name ≠ "_" := by
  obtain ⟨h1, h2, F, h3, h4, h5⟩ := h
  have : P.fieldsOf t = F := by simp [Program.fieldsOf, h3]
  rw [this]
  exact ⟨h1, h2, h3, h4, h5⟩

/-- a part of a struct's or an array's cells -/
theorem run_part_plain {t : Nat} {d : TypeDesc} (hu : P.underlying t = some d) (hd : d.isRow = false) {cs : Array Value} {off : Nat} {v : Value} (h : cs[off]? = some v) : (part t cs off).run P w = .ok v w := by
  simp [part, run_isAgg hu, hd, h]
theorem run_part_row {t : Nat} {ti : TI} (hti : TiOk P t ti) (hc : ti.kind.cls = some true) {cs : Array Value} {off : Nat} : (part t cs off).run P w = .ok (.agg (cs.extract off (off + ti.size))) w := by
  obtain ⟨d, hu, hd⟩ := hti.kind.row hc
  have hi := hti.info1
  cases hq : P.info? t with
  | none => simp [hq] at hi
  | some i =>
    have : i.size = ti.size := by simpa [hq] using hi
    simp [part, run_isAgg hu, hd, sizeOf, typeInfo, hq, this]

theorem rep_extract {cs : List D} {vs : Array Value} (f : Nat → Value) (hs : vs.size = cs.length) (hf : ∀ i, i < cs.length → vs[i]? = some (f i))
    (hn : ∀ i (hi : i < cs.length), cs[i].isAgg = false) (h : ∀ i (hi : i < cs.length), RepD S w cs[i] (f i)) (off n : Nat) :
    RepD S w (.agg ((cs.drop off).take n)) (.agg (vs.extract off (off + n))) := by
  refine .agg _ _ (fun i => f (off + i)) ?_ (fun i hi => ?_) (fun i hi => ?_) fun i hi => ?_
  · simp [hs]; omega
  · simp only [List.length_take, List.length_drop] at hi
    rw [Array.getElem?_extract]
    rw [if_pos (by omega)]
    exact hf _ (by omega)
  · simp only [List.getElem_take, List.getElem_drop]
    exact hn _ _
  · simp only [List.getElem_take, List.getElem_drop]
    exact h _ _

theorem eqD_sound (hT : TabOk P T) : ∀ (n t : Nat) (x y : D) (vx vy : Value) (b : Bool), RepD S w x vx → RepD S w y vy → eqD T n t x y = some b → ∀ d, n ≤ d → (Op.equalIn d t vx vy).run P w = .ok b w
  | 0, t, x, y, vx, vy, b, _, _, h, _, _ => by simp [eqD] at h
  | n + 1, t, x, y, vx, vy, b, hx, hy, h, d, hd => by
    obtain ⟨d, rfl⟩ : ∃ d', d = d' + 1 := ⟨d - 1, by omega⟩
    have hcl : (T.get t).kind.cls ≠ none := by
      intro hc
      cases hk : (T.get t).kind <;> simp [hk, TK.cls] at hc
      simp [eqD, hk] at h
    have hti := hT.of hcl
    have hkind := hti.kind
    unfold eqD at h
    split at h
    · rename_i hk
      rw [hk] at hkind
      simp only [Option.some.injEq] at h
      subst h
      cases hx; cases hy
      exact run_equalIn_bool' w d t _ _ hkind
    · rename_i hk
      rw [hk] at hkind
      split at h
      · rename_i hkk
        subst hkk
        simp only [Option.some.injEq] at h
        subst h
        cases hx; cases hy
        exact run_equalIn_int w d t _ _ _ _ hkind
      · simp at h
    · rename_i hk
      rw [hk] at hkind
      simp only [Option.some.injEq] at h
      subst h
      cases hx; cases hy
      exact run_equalIn_string w d t _ _ hkind
    · rename_i fs xs ys hk
      rw [hk] at hkind
      obtain ⟨h1, h2, h3, h4, h5⟩ := hkind.structF
      cases hx with | agg _ vxs f hs hf hn hr =>
      cases hy with | agg _ vys g hs' hf' hn' hr' =>
      rw [run_equalIn_struct w d t _ _ h3 h1]
      have key : ∀ (F : List Field) (fs : List (Nat × Nat × Nat)) (b : Bool), F.map (fun f => (f.offset, (P.info? f.type).map (·.size), f.type)) = fs.map (fun x => (x.1, some x.2.1, x.2.2)) → (∀ f ∈ F, f.name ≠ "_") →
          eqD.eqFs (eqD T n) T fs xs ys = some b → (Op.eqFields d vxs vys F).run P w = .ok b w := by
        intro F
        induction F with
        | nil =>
          intro fs b hm _ he
          cases fs with
          | nil => simp [eqD.eqFs] at he; subst he; rfl
          | cons => simp at hm
        | cons fl F ih =>
          intro fs b hm hnm he
          cases fs with
          | nil => simp at hm
          | cons q fs =>
            obtain ⟨o, s, ft⟩ := q
            simp only [List.map_cons, List.cons.injEq, Prod.mk.injEq] at hm
            obtain ⟨⟨hm1, hm2, hm3⟩, hm4⟩ := hm
            simp only [eqD.eqFs] at he
            have hftc : (T.get ft).kind.cls ≠ none := by intro hc; simp [hc] at he
            have htf := hT.of hftc
            have hne : fl.name ≠ "_" := hnm fl (by simp)
            have step : ∀ c, (∃ u1 u2, (part fl.type vxs fl.offset).run P w = .ok u1 w ∧ (part fl.type vys fl.offset).run P w = .ok u2 w ∧ (Op.equalIn d fl.type u1 u2).run P w = .ok c w) →
                ∀ b', eqD.eqFs (eqD T n) T fs xs ys = some b' → (Op.eqFields d vxs vys (fl :: F)).run P w = .ok (c && b') w := by
              rintro c ⟨u1, u2, r1, r2, r3⟩ b' hb'
              have := ih fs b' hm4 (fun f hf => hnm f (by simp [hf])) hb'
              simp only [Op.eqFields, if_pos hne, Sem.run_bind, r1, r2, r3, Result.andThen_ok]
              cases c <;> simp [this]
            cases hcl2 : (T.get ft).kind.cls with
            | none => exact absurd hcl2 hftc
            | some q =>
              cases q with
              | true =>
                simp only [hcl2] at he
                cases he1 : eqD T n ft (.agg ((xs.drop o).take s)) (.agg ((ys.drop o).take s)) with
                | none => simp [he1] at he
                | some c =>
                  simp only [he1] at he
                  cases he2 : eqD.eqFs (eqD T n) T fs xs ys with
                  | none => simp [he2] at he
                  | some b' =>
                    simp only [he2, Option.some.injEq] at he
                    subst he
                    have hsz : (T.get ft).size = s := by
                      have := htf.info1
                      rw [← hm3, hm2] at this
                      rw [← hm3]
                      exact (Option.some.inj this).symm
                    refine step c ⟨.agg (vxs.extract o (o + s)), .agg (vys.extract o (o + s)), ?_, ?_, ?_⟩ b' he2
                    · rw [hm3, hm1, ← hsz]; exact run_part_row htf hcl2
                    · rw [hm3, hm1, ← hsz]; exact run_part_row htf hcl2
                    · rw [hm3]
                      exact eqD_sound hT n ft _ _ _ _ c (rep_extract f hs hf hn hr o s) (rep_extract g hs' hf' hn' hr' o s) he1 d (by omega)
              | false =>
                simp only [hcl2] at he
                obtain ⟨dd, hu, hdd⟩ := htf.kind.plain hcl2
                cases hx1 : xs[o]? with
                | none => simp [hx1] at he
                | some x1 =>
                  cases hy1 : ys[o]? with
                  | none => simp [hx1, hy1] at he
                  | some y1 =>
                    simp only [hx1, hy1] at he
                    cases he1 : eqD T n ft x1 y1 with
                    | none => simp [he1] at he
                    | some c =>
                      simp only [he1] at he
                      cases he2 : eqD.eqFs (eqD T n) T fs xs ys with
                      | none => simp [he2] at he
                      | some b' =>
                        simp only [he2, Option.some.injEq] at he
                        subst he
                        obtain ⟨p1, p2⟩ := List.getElem?_eq_some_iff.1 hx1
                        obtain ⟨q1, q2⟩ := List.getElem?_eq_some_iff.1 hy1
                        refine step c ⟨f o, g o, ?_, ?_, ?_⟩ b' he2
                        · rw [hm1, hm3]; exact run_part_plain hu hdd (hf o p1)
                        · rw [hm1, hm3]; exact run_part_plain hu hdd (hf' o q1)
                        · rw [hm3]
                          exact eqD_sound hT n ft _ _ _ _ c (p2 ▸ hr o p1) (q2 ▸ hr' o q1) he1 d (by omega)
      exact key _ fs b h4 h5 h
    · simp at h

theorem binOp_eql_bool (t : Nat) (a b : Bool) : binOp .eql t (.bool a) (.bool b) = (do pure (.bool (← Op.equal t (.bool a) (.bool b)))) := by simp [binOp]

theorem eqD_bin (hT : TabOk P T) {t : Nat} {x y : D} {vx vy : Value} {b : Bool} {ox oy : Operand} (hx : RepD S w x vx) (hy : RepD S w y vy) (h : eqD T 9 t x y = some b) :
    (do eqGuard .eql t ox oy vx vy; binOp .eql t vx vy : Sem Value).run P w = .ok (.bool b) w ∧ (do eqGuard .neq t ox oy vx vy; binOp .neq t vx vy : Sem Value).run P w = .ok (.bool !b) w := by
  have heq := eqD_sound hT 9 t x y vx vy b hx hy h 10000 (by omega)
  have hcl : (T.get t).kind.cls ≠ none := by
    intro hc
    cases hk : (T.get t).kind <;> simp [hk, TK.cls] at hc
    simp [eqD, hk] at h
  have hkind := (hT.of hcl).kind
  unfold eqD at h
  split at h
  · cases hx; cases hy
    simp [eqGuard_bool, binOp, Op.equal, Op.maxDepth, heq]
  · split at h
    · rename_i hkk
      subst hkk
      cases hx; cases hy
      simp only [Option.some.injEq] at h
      subst h
      simp [eqGuard_int, binOp, Op.intCmp, bne]
    · simp at h
  · cases hx; cases hy
    simp only [Option.some.injEq] at h
    subst h
    simp [eqGuard_str, binOp, Op.stringOp]
  · rename_i hk
    rw [hk] at hkind
    obtain ⟨h1, h2, h3, h4, h5⟩ := hkind.structF
    cases hx; cases hy
    constructor
    · rw [Sem.run_bind, run_eqGuard_agg w .eql t ox oy _ _ h2, Result.andThen_ok, run_eql_struct, heq, Result.andThen_ok]
    · rw [Sem.run_bind, run_eqGuard_agg w .neq t ox oy _ _ h2, Result.andThen_ok, run_neq_struct, heq, Result.andThen_ok]
  · simp at h

theorem binK_sound (hT : TabOk P T) {op : BinOp} {t : Nat} {x y : AV} {vx vy : Value} {ox oy : Operand} {K : AV → Prop} (hx : RepA S w φ ob x vx) (hy : RepA S w φ ob y vy) (h : binK T op t x y K) :
    ScalarOut K ((do eqGuard op t ox oy vx vy; binOp op t vx vy : Sem Value).run P w) w := by
  rw [binK_eq] at h
  unfold binK0 at h
  split at h
  · obtain rfl := hx.int; obtain rfl := hy.int
    obtain ⟨h1, r, rfl, hK⟩ := h
    refine ⟨_, rfl, hK, ?_⟩
    simp [eqGuard_int, binOp, Op.shift, Int.not_lt.2 h1]
  · obtain rfl := hx.int; obtain rfl := hy.int
    obtain ⟨h1, r, rfl, hK⟩ := h
    refine ⟨_, rfl, hK, ?_⟩
    simp [eqGuard_int, binOp, Op.shift, Int.not_lt.2 h1]
  · obtain rfl := hx.str; obtain rfl := hy.str
    exact ⟨_, rfl, h, by simp [eqGuard_str, binOp, Op.stringOp]⟩
  · obtain rfl := hx.str; obtain rfl := hy.str
    exact ⟨_, rfl, h, by simp [eqGuard_str, binOp, Op.stringOp]⟩
  · obtain rfl := hx.str; obtain rfl := hy.str
    rename_i a b
    refine ⟨_, rfl, h.2, ?_⟩
    have : ¬ (((a.size + b.size : Nat) : Int) > IntKind.i64.max) := by
      have h1 := h.1
      have : IntKind.i64.max = 9223372036854775807 := by decide
      rw [this]
      omega
    simp only [Sem.run_bind, eqGuard_str, Result.andThen_ok, binOp, Op.stringOp, if_neg this, Sem.run_pure]
  · obtain rfl := hx.int; obtain rfl := hy.int
    simp only [onlyIf_iff, decide_eq_true_eq] at h
    obtain ⟨rfl, h⟩ := h
    cases op <;> simp only at h
    case add => obtain ⟨r, rfl, hK⟩ := h; exact ⟨_, rfl, hK, by simp [eqGuard_int, binOp, Op.intArith]⟩
    case sub => obtain ⟨r, rfl, hK⟩ := h; exact ⟨_, rfl, hK, by simp [eqGuard_int, binOp, Op.intArith]⟩
    case mul => obtain ⟨r, rfl, hK⟩ := h; exact ⟨_, rfl, hK, by simp [eqGuard_int, binOp, Op.intArith]⟩
    case quo => obtain ⟨h0, r, rfl, hK⟩ := h; exact ⟨_, rfl, hK, by simp [eqGuard_int, binOp, Op.intDiv, h0]⟩
    case rem => obtain ⟨h0, r, rfl, hK⟩ := h; exact ⟨_, rfl, hK, by simp [eqGuard_int, binOp, Op.intDiv, h0]⟩
    case and => obtain ⟨r, rfl, hK⟩ := h; exact ⟨_, rfl, hK, by simp [eqGuard_int, binOp, Op.intBits]⟩
    case or => obtain ⟨r, rfl, hK⟩ := h; exact ⟨_, rfl, hK, by simp [eqGuard_int, binOp, Op.intBits]⟩
    case xor => obtain ⟨r, rfl, hK⟩ := h; exact ⟨_, rfl, hK, by simp [eqGuard_int, binOp, Op.intBits]⟩
    case andNot => obtain ⟨r, rfl, hK⟩ := h; exact ⟨_, rfl, hK, by simp [eqGuard_int, binOp, Op.intBits]⟩
    case eql => exact ⟨_, rfl, h, by simp [eqGuard_int, binOp, Op.intCmp]⟩
    case neq => exact ⟨_, rfl, h, by simp [eqGuard_int, binOp, Op.intCmp]⟩
    case lss => exact ⟨_, rfl, h, by simp [eqGuard_int, binOp, Op.intCmp]⟩
    case leq => exact ⟨_, rfl, h, by simp [eqGuard_int, binOp, Op.intCmp]⟩
    case gtr => exact ⟨_, rfl, h, by simp [eqGuard_int, binOp, Op.intCmp]⟩
    case geq => exact ⟨_, rfl, h, by simp [eqGuard_int, binOp, Op.intCmp]⟩
    all_goals exact h.elim
  · cases hx with | d _ _ hx => cases hy with | d _ _ hy =>
    split at h
    · rename_i b he; exact ⟨_, rfl, h, (eqD_bin hT hx hy he).1⟩
    · exact h.elim
  · cases hx with | d _ _ hx => cases hy with | d _ _ hy =>
    split at h
    · rename_i b he; exact ⟨_, rfl, h, (eqD_bin hT hx hy he).2⟩
    · exact h.elim
  · exact h.elim

theorem unK_sound {op : UnOp} {x : AV} {vx : Value} {K : AV → Prop} (hx : RepA S w φ ob x vx) (h : unK op x K) : ScalarOut K ((Op.unary op vx).run P w) w := by
  unfold unK at h
  split at h
  · obtain rfl := hx.bool; exact ⟨_, rfl, h, rfl⟩
  · obtain rfl := hx.int; obtain ⟨r, rfl, hK⟩ := h; exact ⟨_, rfl, hK, rfl⟩
  · exact h.elim

theorem lenK_sound (hT : TabOk P T) {t ty : Nat} {x : AV} {vx : Value} {K : AV → Prop} (hx : RepA S w φ ob x vx) (h : lenK T t x K) :
    ScalarOut K ((Builtin.len_ #[t] ty #[vx]).run P w) w := by
  have hcl : (T.get t).kind.cls ≠ none := by
    intro hc
    cases hk : (T.get t).kind <;> simp [hk, TK.cls] at hc
    simp [lenK, hk] at h
  have hti := (hT.of hcl).kind
  unfold lenK at h
  split at h
  · rename_i hk
    rw [hk] at hti
    simp only [KindOk] at hti
    cases hx with | d _ _ hx =>
    obtain ⟨n, hn, h⟩ := h
    cases hx with
    | lst0 => exact ⟨_, rfl, h, by subst hn; simp [Builtin.len_, run_underlying hti, goInt]⟩
    | lst => exact ⟨_, rfl, h, by subst hn; simp [Builtin.len_, run_underlying hti, goInt]⟩
  · rename_i hk
    rw [hk] at hti
    simp only [KindOk] at hti
    cases hx with | d _ _ hx =>
    cases hx with
    | nil => exact ⟨_, rfl, h, by simp [Builtin.len_, run_underlying hti, goInt]⟩
  · rename_i hk
    rw [hk] at hti
    simp only [KindOk] at hti
    obtain ⟨n, hn, h⟩ := h
    cases hx with | own _ _ _ k c a0 hv hkn _ _ =>
    subst hv hkn hn
    exact ⟨_, rfl, h, by simp [Builtin.len_, run_underlying hti, goInt]⟩
  · rename_i hk
    rw [hk] at hti
    simp only [KindOk] at hti
    obtain rfl := hx.str
    exact ⟨_, rfl, h, by simp [Builtin.len_, run_underlying hti, goInt]⟩
  · rename_i hk
    rw [hk] at hti
    simp only [KindOk] at hti
    exact ⟨_, rfl, h, by simp [Builtin.len_, run_underlying hti, goInt]⟩
  · exact h.elim

theorem maxK_sound {x y : AV} {vx vy : Value} {K : AV → Prop} (hx : RepA S w φ ob x vx) (hy : RepA S w φ ob y vy) (h : maxK [x, y] K) (ts : Array Nat) (ty : Nat) : ScalarOut K ((Builtin.max_ ts ty #[vx, vy]).run P w) w := by
  unfold maxK at h
  split at h
  · rename_i heq
    simp only [List.cons.injEq, and_true] at heq
    obtain ⟨rfl, rfl⟩ := heq
    obtain rfl := hx.int; obtain rfl := hy.int
    obtain ⟨r, rfl, hK⟩ := h
    exact ⟨_, rfl, hK, by simp [Builtin.max_, Builtin.max2]⟩
  · exact h.elim

theorem minK_sound {x y : AV} {vx vy : Value} {K : AV → Prop} (hx : RepA S w φ ob x vx) (hy : RepA S w φ ob y vy) (h : minK [x, y] K) (ts : Array Nat) (ty : Nat) : ScalarOut K ((Builtin.min_ ts ty #[vx, vy]).run P w) w := by
  unfold minK at h
  split at h
  · rename_i heq
    simp only [List.cons.injEq, and_true] at heq
    obtain ⟨rfl, rfl⟩ := heq
    obtain rfl := hx.int; obtain rfl := hy.int
    obtain ⟨r, rfl, hK⟩ := h
    exact ⟨_, rfl, hK, by simp [Builtin.min_, Builtin.min2]⟩
  · exact h.elim
end
end Go.AX
