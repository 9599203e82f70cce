/-
  AX, part 8: every operation; plain regions; code; loops; functions.
-/
import Derived.Test.YtoankoojoeaooaaAxM
namespace Go.AX
section
variable {P : Program} {T : TT} {E : Env} {w : World} {S : Sc} {φ : Nat → Option (Nat × Nat)} {ob : Nat → Option OB}

theorem post_scalar {obl : List (Option OB)} (m : Mem E w S φ (fun r => obl.getD r none)) {u : Value} (h : u.oneCell' = true) : Post E w S φ (fun r => obl.getD r none) (.d (.val u)) [] u w :=
  Post.pure m (.d _ _ (.val _ h)) (closed_d _ _)

theorem isNil_eq {a : AV} (h : isNil a = true) : a = .d (.val (.slice none 0 0)) := by
  unfold isNil at h
  split at h
  · rfl
  · simp at h

theorem run_alloc {t : Nat} {i : TypeInfo} {z : Value} (hi : P.info? t = some i) (hz : i.zero = some z) : (Instr.alloc t true (.tuple #[])).run P w = .ok (.pointer (some ⟨w.heap.size, 0, none⟩)) (w.alloc (.cells z.cells t)) := by
  simp [Instr.alloc, zeroValue, typeInfo, hi, hz, newVar, newRow]

theorem append_post {obl : List (Option OB)} {out : AV} {e sz : Nat} {zs : List D} {frz : Bool} {r : Nat} {u : Value} {w' : World} {φ' : Nat → Option (Nat × Nat)}
    (m : Mem E w' S φ' (upd (fun r => obl.getD r none) r (some (.row e sz zs frz)))) (k : Kept w S φ (fun r => obl.getD r none) w' S φ' (upd (fun r => obl.getD r none) r (some (.row e sz zs frz))))
    (hv : OwnV φ' r zs.length u) (ho : out = .own r zs.length) : Post E w S φ (fun r => obl.getD r none) out [(r, .row e sz zs frz)] u w' := by
  subst ho
  refine ⟨S, φ', m, k, ?_, fun r' hr' => ?_⟩
  · have hs : ∃ k c a0, u = .slice a0 k c ∧ k = zs.length := by
      rcases hv with ⟨_, h2, rfl⟩ | ⟨b, cap, _, rfl⟩
      · exact ⟨0, 0, none, rfl, h2.symm⟩
      · exact ⟨_, cap, _, rfl, rfl⟩
    obtain ⟨k', c, a0, h1, h2⟩ := hs
    refine .own r _ u k' c a0 h1 h2 (fun e' sz' es' f' hx => ?_) fun cs hx => ?_
    · simp only [updW, upd_same, Option.some.injEq, OB.row.injEq] at hx
      obtain ⟨rfl, rfl, rfl, rfl⟩ := hx
      exact ⟨Nat.le_refl _, fun _ => hv⟩
    · simp [updW] at hx
  · simp only [AV.refs, List.mem_singleton] at hr'
    subst hr'
    simp [updW]

theorem beq_iff {a b : Nat} : Nat.beq a b = true ↔ a = b := ⟨Nat.eq_of_beq_eq_true, fun h => h ▸ Nat.beq_refl a⟩

theorem appendK_sound {obl : List (Option OB)} (hT : TabOk P T) (m : Mem E w S φ (fun r => obl.getD r none)) {st ty self : Nat} {x y : AV} {vx vy : Value} {K : AV → W → Prop} (hx : RepA S w φ (fun r => obl.getD r none) x vx)
    (hy : RepA S w φ (fun r => obl.getD r none) y vy) (h : appendK T st self x y obl K) :
    ∃ out wr u w', K out wr ∧ (∀ r o, (r, o) ∈ wr → r < obl.length) ∧ (Builtin.append_ #[st, st] ty #[vx, vy]).run P w = .ok u w' ∧ Post E w S φ (fun r => obl.getD r none) out wr u w' := by
  unfold appendK at h
  split at h
  · rename_i e hk
    obtain ⟨sz', ys, h, hsv⟩ := srcK_sound m hy h
    split at h
    · rename_i szn
      rw [noO_iff, onlyIf_iff, onlyIf_iff, Bool.and_eq_true] at h
      obtain ⟨hself, ⟨hc1, hc2⟩, hkn, hb, hK⟩ := h
      have hsz := beq_iff.1 hc1
      have hpos : 0 < (T.get e).size := Nat.le_of_ble_eq_true hc2
      subst hsz
      obtain ⟨hs1, hs2⟩ := noO_none hself
      obtain ⟨m1, k1⟩ := m.empty self e (T.get e).size hs1 hpos
      cases hx with | d _ _ hx =>
      cases hx with | nil =>
      have hsv1 : SrcV S w (T.get e).size ys vy := hsv
      obtain ⟨u, w', φ', h1, h2, h3, h4⟩ := append_core (ty := ty) m1 (hT.of (known_ne hkn)) (kind_slice hT hk) (r := self) (es := []) (frz := false) (upd_same _ _ _) (.inl ⟨upd_same _ _ _, rfl, rfl⟩) hsv1 rfl (by simpa using hb.1) (by simpa using hb.2)
      rw [List.nil_append, upd_upd] at h2 h3
      rw [List.nil_append] at h4
      refine ⟨_, _, u, w', hK, fun r o hm => ?_, h1, append_post h2 (k1.trans h3) h4 rfl⟩
      simp only [List.mem_singleton, Prod.mk.injEq] at hm
      rw [hm.1]; exact hs2
    · rename_i r n
      rw [findO_iff] at h
      obtain ⟨o, ho, h⟩ := h
      cases o with
      | box => simp at h
      | map => simp at h
      | row e' sz es frz =>
        simp only [onlyIf_iff, Bool.and_eq_true] at h
        obtain ⟨⟨⟨⟨q1, q2⟩, q3⟩, q4⟩, hkn, hn, hb, zs, hzs, hK⟩ := h
        have q1 := beq_iff.1 q1
        have q2 := beq_iff.1 q2
        have q3 := beq_iff.1 q3
        subst q1 q2 hzs
        cases hx with | own _ _ _ k c a0 hv hkk h1 hbx =>
        have hown := (h1 _ _ _ _ ho).2 hn
        rw [hn] at hown
        obtain ⟨u, w', φ', g1, g2, g3, g4⟩ := append_core (ty := ty) m (hT.of (known_ne hkn)) (kind_slice hT hk) ho hown hsv q3.symm hb.1 hb.2
        refine ⟨_, _, u, w', hK, fun r o hm => ?_, g1, append_post g2 g3 g4 rfl⟩
        simp only [List.mem_singleton, Prod.mk.injEq] at hm
        rw [hm.1]; exact getD_obf obl _ _ ho
    · exact h.elim
  · exact h.elim

theorem RunOK.value {o : Oper} {ρ : Operand → Value} {Q : Value → World → Prop} {u : Value} {w' : World} (h : (execOp ρ o).run P w = .ok (.value u) w') (hq : Q u w') : RunOK P o ρ w Q := by
  unfold RunOK; rw [h]; exact hq
theorem RunOK.skip {o : Oper} {ρ : Operand → Value} {Q : Value → World → Prop} {w' : World} (h : (execOp ρ o).run P w = .ok .skip w') (hq : Q undef w') : RunOK P o ρ w Q := by
  unfold RunOK; rw [h]; exact hq

/-- ONE OPERATION. -/
theorem opK_sound {obl : List (Option OB)} {cx : Cx} (hT : TabOk P cx.T) (hC : ∀ f args objs res objs', cx.C f args objs res objs' → CallsOK P f args objs res objs') (m : Mem E w S φ (fun r => obl.getD r none)) {o : Oper} {av : Operand → AV} {ρ : Operand → Value} {K : AV → W → Prop}
    (hav : ∀ x, RepA S w φ (fun r => obl.getD r none) (av x) (ρ x) ∧ Closed (fun r => obl.getD r none) (av x)) (h : opK cx o av obl K) :
    ∃ out wr, K out wr ∧ (∀ r o, (r, o) ∈ wr → r < obl.length) ∧ RunOK P o ρ w (Post E w S φ (fun r => obl.getD r none) out wr) := by
  have none : ∀ r o, (r, o) ∈ ([] : W) → r < obl.length := fun _ _ hm => by simp at hm
  have scalar : ∀ {s : Sem Value} {K : AV → Prop}, ScalarOut K (s.run P w) w → (execOp ρ o = (do pure (.value (← s)))) → ∃ out, K out ∧ RunOK P o ρ w (Post E w S φ (fun r => obl.getD r Option.none) out []) := by
    rintro s K ⟨u, h1, h2, h3⟩ he
    refine ⟨_, h2, RunOK.value (u := u) (w' := w) ?_ (post_scalar m h1)⟩
    rw [he, Sem.run_bind, h3, Result.andThen_ok]
    rfl
  have pureV : ∀ {s : Sem Value} {out : AV} {u : Value}, s.run P w = .ok u w → RepA S w φ (fun r => obl.getD r Option.none) out u → Closed (fun r => obl.getD r Option.none) out → (execOp ρ o = (do pure (.value (← s)))) →
      RunOK P o ρ w (Post E w S φ (fun r => obl.getD r Option.none) out []) := by
    intro s out u h1 h2 h3 he
    refine RunOK.value (u := u) (w' := w) ?_ (Post.pure m h2 h3)
    rw [he, Sem.run_bind, h1, Result.andThen_ok]
    rfl
  have parts : ∀ (ps : Array (Nat × Operand)), PartsOK S w φ (fun r => obl.getD r Option.none) (ps.toList.map fun (i, x) => (i, av x)) (ps.map fun (i, x) => (i, ρ x)).toList := by
    intro ps
    rw [Array.toList_map]
    induction ps.toList with
    | nil => exact .nil
    | cons p l ih => exact .cons ⟨rfl, (hav p.2).1, (hav p.2).2⟩ ih
  have hnil : ∀ t x, RepA S w φ (fun r => obl.getD r Option.none) (nilT cx.T t (av x)) (ρ x) ∧ Closed (fun r => obl.getD r Option.none) (nilT cx.T t (av x)) := by
    intro t x
    unfold nilT
    split
    · rename_i hn
      split
      · have hx := (hav x).1
        rw [isNil_eq hn] at hx
        rw [hx.val]
        exact ⟨.d _ _ (.nil _), closed_d _ _⟩
      · exact hav x
    · exact hav x
  unfold opK at h
  split at h <;> rename_i heq
  -- move, assign
  · rename_i x
    have hm : (execOp ρ o).run P w = .ok (.value (ρ x)) w := by unfold execOp; rw [heq]; rfl
    split at h
    · rename_i cv
      unfold moveK at h
      split at h
      · rename_i hn
        have hrx := (hav (.const cv)).1
        rw [isNil_eq hn] at hrx
        have hvx := hrx.val
        split at h
        · rename_i e hk
          split at h
          · rename_i hs
            rw [onlyIf_iff] at h
            obtain ⟨hpos, hK⟩ := h
            obtain ⟨hs1, hs2⟩ := noO_none hs
            obtain ⟨m1, k1⟩ := m.empty (cx.np + o.dst.getD 0) e (cx.T.get e).size hs1 (Nat.le_of_ble_eq_true hpos)
            refine ⟨_, _, hK, fun r o hm => ?_, RunOK.value hm ?_⟩
            · simp only [List.mem_singleton, Prod.mk.injEq] at hm
              rw [hm.1]; exact hs2
            · exact append_post (zs := []) m1 k1 (.inl ⟨upd_same _ _ _, rfl, hvx⟩) rfl
          · refine ⟨_, _, h, none, RunOK.value hm (Post.pure m ?_ (closed_d _ _))⟩
            rw [hvx]
            exact .d _ _ (.nil _)
        · exact h.elim
      · rw [force_iff] at h
        exact ⟨_, _, h, none, RunOK.value hm (Post.pure m (hav _).1 (hav _).2)⟩
    · rw [force_iff] at h
      exact ⟨_, _, h, none, RunOK.value hm (Post.pure m (hav x).1 (hav x).2)⟩
  · rename_i x
    have hm : (execOp ρ o).run P w = .ok (.value (ρ x)) w := by unfold execOp; rw [heq]; rfl
    split at h
    · rename_i cv
      unfold moveK at h
      split at h
      · rename_i hn
        have hrx := (hav (.const cv)).1
        rw [isNil_eq hn] at hrx
        have hvx := hrx.val
        split at h
        · rename_i e hk
          split at h
          · rename_i hs
            rw [onlyIf_iff] at h
            obtain ⟨hpos, hK⟩ := h
            obtain ⟨hs1, hs2⟩ := noO_none hs
            obtain ⟨m1, k1⟩ := m.empty (cx.np + o.dst.getD 0) e (cx.T.get e).size hs1 (Nat.le_of_ble_eq_true hpos)
            refine ⟨_, _, hK, fun r o hm => ?_, RunOK.value hm ?_⟩
            · simp only [List.mem_singleton, Prod.mk.injEq] at hm
              rw [hm.1]; exact hs2
            · exact append_post (zs := []) m1 k1 (.inl ⟨upd_same _ _ _, rfl, hvx⟩) rfl
          · refine ⟨_, _, h, none, RunOK.value hm (Post.pure m ?_ (closed_d _ _))⟩
            rw [hvx]
            exact .d _ _ (.nil _)
        · exact h.elim
      · rw [force_iff] at h
        exact ⟨_, _, h, none, RunOK.value hm (Post.pure m (hav _).1 (hav _).2)⟩
    · rw [force_iff] at h
      exact ⟨_, _, h, none, RunOK.value hm (Post.pure m (hav x).1 (hav x).2)⟩
  -- pick
  · rename_i c a b
    unfold pickK at h
    split at h
    · rename_i t hct
      have hc := (hav c).1
      rw [hct] at hc
      have hcv := hc.bool
      have hm : (execOp ρ o).run P w = .ok (.value (if t then ρ a else ρ b)) w := by
        unfold execOp; rw [heq]
        simp [hcv, asBool]
      split at h
      · rename_i x y ha hb
        have ha' := (hav a).1; rw [ha] at ha'
        have hb' := (hav b).1; rw [hb] at hb'
        refine ⟨_, _, h, none, RunOK.value hm ?_⟩
        rw [ha'.bool, hb'.bool]
        have : (if t = true then Value.bool x else Value.bool y) = .bool (cond t x y) := by cases t <;> rfl
        rw [this]
        exact post_scalar m rfl
      · cases t with
        | true =>
          simp only [force_iff] at h
          exact ⟨_, _, h, none, RunOK.value hm (Post.pure m (by simpa using (hav a).1) (hav a).2)⟩
        | false =>
          simp only [force_iff] at h
          exact ⟨_, _, h, none, RunOK.value hm (Post.pure m (by simpa using (hav b).1) (hav b).2)⟩
    · exact h.elim
  -- alloc
  · rename_i t
    rw [onlyIf_iff, noO_iff] at h
    obtain ⟨hkn, hs, hK⟩ := h
    obtain ⟨hs1, hs2⟩ := noO_none hs
    have hti := hT.of (known_ne hkn)
    obtain ⟨i, z, hi, _, _, hz, _⟩ := hti.info
    obtain ⟨⟨z1, z2⟩, z3⟩ := zero_repL (S := S) (w := w) (φ := φ) (ob := fun r => obl.getD r Option.none) hT (known_ne hkn) hi hz
    refine ⟨_, _, hK, fun r o hm => ?_, RunOK.value (u := .pointer (some ⟨w.heap.size, 0, Option.none⟩)) (w' := w.alloc (.cells z.cells t)) ?_ (box_sound m t hs1 z1 z2 z3)⟩
    · simp only [List.mem_singleton, Prod.mk.injEq] at hm
      rw [hm.1]; exact hs2
    · unfold execOp; rw [heq]
      simp [run_alloc hi hz]
  -- box
  · rename_i t x
    rw [noO_iff] at h
    obtain ⟨hs, h⟩ := h
    rw [cellsK_iff] at h
    obtain ⟨l, hl, h⟩ := h
    rw [onlyIf_iff] at h
    obtain ⟨hs1, hs2⟩ := noO_none hs
    obtain ⟨r1, r2⟩ := rep_cells (hav x).1 hl
    refine ⟨_, _, h.2, fun r o hm => ?_, RunOK.value (u := .pointer (some ⟨w.heap.size, 0, Option.none⟩)) (w' := w.alloc (.cells (ρ x).cells t)) ?_ (box_sound m t hs1 r1 r2 (closed_cells (hav x).2 hl))⟩
    · simp only [List.mem_singleton, Prod.mk.injEq] at hm
      rw [hm.1]; exact hs2
    · unfold execOp; rw [heq]
      simp [Instr.box, newVar, newRow]
  -- build
  · rename_i t ps
    obtain ⟨out, u, h1, h2, h3, h4⟩ := buildK_sound hT (parts ps) h
    exact ⟨out, [], h1, none, pureV h2 h3 h4 (by unfold execOp; rw [heq])⟩
  -- buildSlice
  · rename_i t len ps
    obtain ⟨out, wr, u, w', h1, h2, h3, h4⟩ := buildSliceK_sound hT m (parts ps) h
    refine ⟨out, wr, h1, h2, RunOK.value (u := u) (w' := w') ?_ h4⟩
    unfold execOp; rw [heq]
    simp [h3]
  -- load
  · rename_i t x
    obtain ⟨out, u, h1, h2, h3, h4⟩ := loadK_sound hT m (hav x).1 (hav x).2 h
    exact ⟨out, [], h1, none, pureV h2 h3 h4 (by unfold execOp; rw [heq])⟩
  -- store
  · rename_i t a x
    unfold storeK at h
    rw [onlyIf_iff] at h
    obtain ⟨hkn, h⟩ := h
    have hkn := known_ne hkn
    split at h
    · rename_i r off har
      rw [findO_iff] at h
      obtain ⟨q, hq, h⟩ := h
      cases q with
      | row => simp at h
      | map => simp at h
      | box cs =>
        simp only [cellsK_iff, onlyIf_iff, overK_iff] at h
        obtain ⟨l, hl, hsz, hle, hK⟩ := h
        obtain ⟨r1, r2⟩ := rep_cells (hnil t x).1 hl
        have ha := (hav a).1
        rw [har] at ha
        obtain ⟨b, c, hφ, hv⟩ := ha.ref'
        have hcl := closed_cells (hnil t x).2 hl
        obtain ⟨w', g1, g2⟩ := store_box_sound m hφ hq (t := t) (by rw [(hT.of hkn).info1, beq_iff.1 hsz]) r1 r2 hcl hle
        refine ⟨_, _, hK, fun r' o hm => ?_, RunOK.skip (w' := w') ?_ g2⟩
        · simp only [List.mem_singleton, Prod.mk.injEq] at hm
          rw [hm.1]; exact getD_obf obl _ _ hq
        · unfold execOp; rw [heq]
          simp [hv, g1]
    · rename_i r n i k har
      rw [findO_iff] at h
      obtain ⟨q, hq, h⟩ := h
      cases q with
      | box => simp at h
      | map => simp at h
      | row e sz es frz =>
        simp only at h
        obtain ⟨hn, hf, h⟩ := h
        subst hf
        split at h
        · rename_i xd hxd
          rw [onlyIf_iff] at h
          obtain ⟨hsz, y, hy, h⟩ := h
          unfold rowStoreK at h
          rw [normK_iff, overK_iff] at h
          obtain ⟨hle, h⟩ := h
          have hx := (hnil t x).1
          rw [hxd] at hx
          cases hx with | d _ _ hx =>
          have hxn := hx.norm
          have ha := (hav a).1
          rw [har] at ha
          have hlen := beq_iff.1 hsz
          cases ha with | rref _ _ _ _ _ h1 hb hp =>
          obtain ⟨_, h2⟩ := h1 _ _ _ _ hq
          obtain ⟨hi, b, c, hφ, hv⟩ := h2 hn
          have hi' : i < es.length := by omega
          have hye : y = es[i] := by rw [← hy]; simp [hi']
          obtain ⟨_, g1, _, _⟩ := m.obj r _ hq
          have hov : y.cells.take k ++ xd.norm.cells ++ y.cells.drop (k + xd.norm.cells.length) = overL es[i].cells k xd.norm.cells := by rw [hye]; rfl
          rw [hov] at h
          have hle' : k + xd.norm.cells.length ≤ sz := by rw [hye, g1 i hi'] at hle; exact hle
          have fin : ∀ (z : D), z.cells = overL es[i].cells k xd.norm.cells → K .dead [(r, .row e sz (es.set i z) false)] → ∃ out wr, K out wr ∧ (∀ r o, (r, o) ∈ wr → r < obl.length) ∧ RunOK P o ρ w (Post E w S φ (fun r => obl.getD r Option.none) out wr) := by
            intro z hz hK
            obtain ⟨w', q1, q2⟩ := store_row_sound m hφ hq (t := t) (v := ρ x) (by rw [(hT.of hkn).info1, D.norm_cells_length, hlen]) hxn hi' hle' hz
            refine ⟨_, _, hK, fun r' o hm => ?_, RunOK.skip (w' := w') ?_ q2⟩
            · simp only [List.mem_singleton, Prod.mk.injEq] at hm
              rw [hm.1]; exact getD_obf obl _ _ hq
            · unfold execOp; rw [heq]
              simp [hv, q1]
          split at h
          · obtain ⟨_, rfl, h⟩ := h
            exact fin _ rfl h
          · split at h
            · rename_i z hz
              rw [onlyIf_iff] at h
              obtain ⟨h0, _, rfl, h⟩ := h
              refine fin z ?_ h
              rw [hz]
              exact D.cells_plain (by simpa using h0)
            · exact h.elim
        · exact h.elim
    · exact h.elim
  -- nilCheck
  · rename_i x
    have hx := (hav x).1
    have hc := (hav x).2
    have go : ∀ (hK : K (av x) []) (hm : (execOp ρ o).run P w = .ok (.value (ρ x)) w), ∃ out wr, K out wr ∧ (∀ r o, (r, o) ∈ wr → r < obl.length) ∧ RunOK P o ρ w (Post E w S φ (fun r => obl.getD r Option.none) out wr) :=
      fun hK hm => ⟨_, _, hK, none, RunOK.value hm (Post.pure m hx hc)⟩
    split at h
    · rename_i r off har
      refine go (har ▸ h) ?_
      rw [har] at hx
      obtain ⟨b, c, _, hv⟩ := hx.ref'
      unfold execOp; rw [heq]; dsimp only; rw [hv]; rfl
    · rename_i cs har
      refine go (har ▸ h) ?_
      rw [har] at hx
      generalize hv : ρ x = vx at hx
      cases hx with | eref =>
      unfold execOp; rw [heq]; dsimp only; rw [hv]; rfl
    · rename_i r n i k har
      refine go (har ▸ h) ?_
      rw [har] at hx
      generalize hv : ρ x = vx at hx
      cases hx with | rref _ _ _ _ _ _ _ hp =>
      obtain ⟨a, hp⟩ := hp
      unfold execOp; rw [heq]; dsimp only; rw [hv, hp]; rfl
    · rename_i f caps har
      refine go (har ▸ h) ?_
      rw [har] at hx
      generalize hv : ρ x = vx at hx
      cases hx with | fn =>
      unfold execOp; rw [heq]; dsimp only; rw [hv]; rfl
    · exact h.elim
  -- binOp
  · rename_i op t x y ty
    obtain ⟨out, h1, h2⟩ := scalar (binK_sound (ox := x) (oy := y) hT (hav x).1 (hav y).1 h) (by unfold execOp; rw [heq])
    exact ⟨out, [], h1, none, h2⟩
  -- unOp
  · rename_i op t x
    obtain ⟨out, h1, h2⟩ := scalar (unK_sound (hav x).1 h) (by unfold execOp; rw [heq])
    exact ⟨out, [], h1, none, h2⟩
  -- convert
  · rename_i src dst x
    obtain ⟨out, h1, h2⟩ := scalar (convK_sound hT m (hav x).1 h) (by unfold execOp; rw [heq])
    exact ⟨out, [], h1, none, h2⟩
  -- fieldAddr
  · rename_i t x i
    obtain ⟨off, s, ft, fs, h, hkind, hi, hs⟩ := fieldOff_sound hT h
    have hx := (hav x).1
    have hc := (hav x).2
    split at h
    · rename_i r o' har
      rw [har] at hx hc
      generalize hv : ρ x = vx at hx
      cases hx with | ref _ _ b c hφ hb =>
      refine ⟨_, _, h, none, pureV (run_fieldAt hkind hi hs b o') (.ref r _ b c hφ hb) (fun r' hr' => hc r' (by simpa [AV.refs] using hr')) ?_⟩
      unfold execOp; rw [heq]; dsimp only; rw [hv]
    · rename_i cs har
      rw [har] at hx
      simp only [dropK_iff, takeK_iff] at h
      generalize hv : ρ x = vx at hx
      cases hx with | eref _ b o' f hS hn hr =>
      refine ⟨_, _, h, none, pureV (run_fieldAt hkind hi hs b o') ?_ (fun r' hr' => by simp [AV.refs] at hr') ?_⟩
      · refine .eref _ b _ (fun j => f (off + j)) (fun j hj => ?_) (fun j hj => ?_) fun j hj => ?_
        · simp only [List.length_take, List.length_drop] at hj
          rw [Nat.add_assoc]
          exact hS _ (by omega)
        · simp only [List.getElem_take, List.getElem_drop]
          exact hn _ _
        · simp only [List.getElem_take, List.getElem_drop]
          exact hr _ _
      · unfold execOp; rw [heq]; dsimp only; rw [hv]
    · rename_i r n j k har
      rw [har] at hx hc
      generalize hv : ρ x = vx at hx
      cases hx with | rref _ _ _ _ _ h1 hb hp =>
      obtain ⟨⟨ab, ao, asp⟩, hp⟩ := hp
      subst hp
      rw [findO_iff] at h
      obtain ⟨q, hq, h⟩ := h
      cases q with
      | box cs => exact absurd hq (hb cs)
      | map => simp at h
      | row e sz es frz =>
        simp only at h
        obtain ⟨hn, h⟩ := h
        obtain ⟨_, h2⟩ := h1 e sz es frz hq
        obtain ⟨hj, b, c, hφ, hv2⟩ := h2 hn
        simp only [Value.pointer.injEq, Option.some.injEq, Addr.mk.injEq] at hv2
        obtain ⟨rfl, rfl, rfl⟩ := hv2
        refine ⟨_, _, h, none, pureV (run_fieldAt hkind hi hs ab (j * sz + k)) (.rref r n j _ _ (fun e2 sz2 es2 f2 hx2 => ?_) hb ⟨_, rfl⟩) (fun r' hr' => hc r' (by simpa [AV.refs] using hr')) ?_⟩
        · rw [hq] at hx2
          simp only [Option.some.injEq, OB.row.injEq] at hx2
          obtain ⟨rfl, rfl, rfl, rfl⟩ := hx2
          exact ⟨by omega, fun _ => ⟨hj, ab, c, hφ, by rw [Nat.add_assoc]⟩⟩
        · unfold execOp; rw [heq]; dsimp only; rw [hv]
    · exact h.elim
  -- field
  · rename_i t x i
    obtain ⟨out, u, h1, h2, h3, h4⟩ := fieldK_sound hT (hav x).1 (hav x).2 h
    exact ⟨out, [], h1, none, pureV h2 h3 h4 (by unfold execOp; rw [heq])⟩
  -- indexAddr
  · rename_i t x y
    obtain ⟨out, u, h1, h2, h3, h4⟩ := indexAddrK_sound hT (hav x).1 (hav x).2 (hav y).1 h
    exact ⟨out, [], h1, none, pureV h2 h3 h4 (by unfold execOp; rw [heq])⟩
  -- index
  · rename_i t x y
    obtain ⟨out, u, h1, h2, h3, h4⟩ := indexK_sound hT (hav x).1 (hav x).2 (hav y).1 h
    exact ⟨out, [], h1, none, pureV h2 h3 h4 (by unfold execOp; rw [heq])⟩
  -- makeMap
  · rename_i t
    split at h
    · rename_i k e hk
      rw [noO_iff] at h
      obtain ⟨hself, hK⟩ := h
      obtain ⟨hs1, hs2⟩ := noO_none hself
      obtain ⟨w', h1, h2⟩ := makeMap_sound (P := P) (t := t) (k := k) (e := e) m hs1
      refine ⟨_, _, hK, fun r o hm => ?_, RunOK.value (w' := w') ?_ h2⟩
      · simp only [List.mem_singleton, Prod.mk.injEq] at hm
        rw [hm.1]; exact hs2
      · unfold execOp; rw [heq]
        simp [h1]
    · exact h.elim
  -- lookup
  · rename_i t x y ok
    obtain ⟨out, u, h1, h2, h3, h4⟩ := lookK_sound hT m (hav x).1 (hav y).1 h
    exact ⟨out, [], h1, none, pureV h2 h3 h4 (by unfold execOp; rw [heq])⟩
  -- mapUpdate, insert
  · rename_i t mm k v
    obtain ⟨out, wr, w', h1, h2, h3, h4⟩ := mapSetK_sound hT m (hav mm).1 (hav k).1 (hav v).1 h
    refine ⟨out, wr, h1, h2, RunOK.skip (w' := w') ?_ h4⟩
    unfold execOp; rw [heq]
    simp [h3]
  · rename_i t mm k v
    obtain ⟨out, wr, w', h1, h2, h3, h4⟩ := mapSetK_sound hT m (hav mm).1 (hav k).1 (hav v).1 h
    refine ⟨out, wr, h1, h2, RunOK.skip (w' := w') ?_ h4⟩
    unfold execOp; rw [heq]
    simp [h3]
  -- slice
  · rename_i t x lo hi
    have bd : ∀ (q : Option Operand) (i : Int), (∃ k, q.map av = some (.d (.val (.int k i)))) → ∃ k, q.map ρ = some (.int k i) := by
      rintro q i ⟨k, hk⟩
      cases q with
      | none => simp at hk
      | some y =>
        simp only [Option.map_some, Option.some.injEq] at hk
        have hy := (hav y).1
        rw [hk] at hy
        exact ⟨k, by simp only [Option.map_some, hy.int]⟩
    have bn : ∀ (q : Option Operand), q.map av = Option.none → q.map ρ = Option.none := by
      intro q hq
      cases q with
      | none => rfl
      | some y => simp at hq
    unfold sliceK at h
    split at h
    · rename_i e hk
      rw [onlyIf_iff] at h
      obtain ⟨hkn, h⟩ := h
      obtain ⟨d, wr, S', hK, m', k', hd, hx', hw'⟩ := toD_sound m (FrzExt.refl _) (hnil t x).1 h
      obtain ⟨es, l, u, rfl, hl, hh, c1, c2, c3, hK⟩ := sliceD_iff hK
      obtain ⟨a, n, cap, hv⟩ : ∃ a n cap, ρ x = .slice a n cap := by
        generalize ρ x = v at hd
        cases hd <;> exact ⟨_, _, _, rfl⟩
      rw [hv] at hd
      obtain ⟨e1, e2, hr⟩ := hd.part (l := l.toNat) (h := u.toNat) (by omega) (by omega)
      obtain ⟨ie, z, hie, hi1, _⟩ := (hT.of (known_ne hkn)).info
      have hrun := run_slice_part (P := P) (w := w) (kind_slice hT hk) hie (a := a) (len := n) (cap := cap) (lo := lo.map ρ) (hi' := hi.map ρ) (l := l.toNat) (h := u.toNat)
        (hl.imp (fun q => ⟨bn _ q.1, by omega⟩) fun q => by
          obtain ⟨k, hk⟩ := bd _ _ q
          exact ⟨k, by rw [hk]; congr 2; omega⟩)
        (hh.imp (fun q => ⟨bn _ q.1, by omega⟩) fun q => by
          obtain ⟨k, hk⟩ := bd _ _ q
          exact ⟨k, by rw [hk]; congr 2; omega⟩) (by omega) (by omega) e2
      refine ⟨_, wr, hK, fun r o hm => ?_, RunOK.value (u := .slice (if cap = l.toNat then a else a.map (·.add (l.toNat * ie.size))) (u.toNat - l.toNat) (cap - l.toNat)) (w' := w) ?_ ⟨S', φ, m', k', .d _ _ ?_, closed_d _ _⟩⟩
      · obtain ⟨e', sz', es', f', q1, _⟩ := hw' r o hm
        exact getD_obf obl r _ q1
      · unfold execOp; rw [heq]
        simp [hv, hrun]
      · rw [hi1]
        exact hr
    · rename_i hk
      split at h
      · rename_i s hxs
        have hb : ∀ (o : Option AV) (dflt : Int) (K : Int → Prop), boundK o dflt K → ∃ i, (o = Option.none ∧ i = dflt ∨ ∃ k, o = some (.d (.val (.int k i)))) ∧ K i := by
          intro o dflt K hk
          unfold boundK at hk
          split at hk
          · exact ⟨dflt, .inl ⟨rfl, rfl⟩, hk⟩
          · exact ⟨_, .inr ⟨_, rfl⟩, hk⟩
          · exact hk.elim
        obtain ⟨l, hl, h⟩ := hb _ _ _ h
        obtain ⟨u, hh, ⟨c1, c2, c3⟩, hK⟩ := hb _ _ _ h
        have hx := (hnil t x).1
        rw [hxs] at hx
        have hv := hx.str
        have hti := (hT.of (t := t) (by rw [hk]; simp [TK.cls])).kind
        rw [hk] at hti
        have hrun := run_slice_str (P := P) (w := w) (t := t) hti (s := s) (lo := lo.map ρ) (hi' := hi.map ρ) (l := l.toNat) (h := u.toNat)
          (hl.imp (fun q => ⟨bn _ q.1, by omega⟩) fun q => by
            obtain ⟨k, hk⟩ := bd _ _ q
            exact ⟨k, by rw [hk]; congr 2; omega⟩)
          (hh.imp (fun q => ⟨bn _ q.1, by omega⟩) fun q => by
            obtain ⟨k, hk⟩ := bd _ _ q
            exact ⟨k, by rw [hk]; congr 2; omega⟩) (by omega) (by omega)
        refine ⟨_, _, hK, none, RunOK.value (u := .string (s.extract l.toNat u.toNat)) (w' := w) ?_ (post_scalar m rfl)⟩
        unfold execOp; rw [heq]
        simp [hv, hrun]
      · exact h.elim
    · exact h.elim
  -- makeSlice
  · rename_i t n c
    obtain ⟨out, wr, u, w', h1, h2, h3, h4⟩ := makeK_sound hT m (hav n).1 (hav c).1 h
    refine ⟨out, wr, h1, h2, RunOK.value (u := u) (w' := w') ?_ h4⟩
    unfold execOp; rw [heq]
    simp [h3]
  -- extract
  · rename_i x i
    have hx := (hav x).1
    have hc := (hav x).2
    split at h
    · rename_i vs har
      rw [har] at hx hc
      split at h
      · rename_i a hg
        rw [force_iff] at h
        generalize hv : ρ x = vx at hx
        cases hx with | tup _ us f hs hf hr =>
        obtain ⟨p1, p2⟩ := List.getElem?_eq_some_iff.1 hg
        refine ⟨_, _, h, none, pureV (s := Instr.extract (ρ x) i) (u := f i) ?_ (p2 ▸ hr i p1) (fun r hr' => hc r (by rw [← p2] at hr'; simpa [AV.refs] using AV.refs_mem vs i p1 r hr')) (by unfold execOp; rw [heq])⟩
        rw [hv]
        simp [Instr.extract, hf i p1]
      · exact h.elim
    · exact h.elim
  -- makeFunc
  · rename_i f first caps
    split at h
    · rename_i hfirst
      have hf0 : first = #[] := Array.toList_eq_nil_iff.1 hfirst
      subst hf0
      refine ⟨_, _, h, none, pureV (s := Instr.makeFunc (.func f) #[] (caps.map ρ)) (u := .func (.func f) #[] (caps.map ρ)) rfl ?_ (fun r hr' => ?_) (by unfold execOp; rw [heq]; simp)⟩
      · refine .fn f _ _ (fun i => ρ (caps.toList.getD i (.const undef))) (by simp) (fun i hi => ?_) fun i hi => ?_
        · have hi' : i < caps.size := by simpa using hi
          simp [hi']
        · have hi' : i < caps.size := by simpa using hi
          simp only [List.getElem_map]
          have : caps.toList.getD i (.const undef) = caps.toList[i]'(by simpa using hi') := by simp [hi']
          rw [this]
          exact (hav _).1
      · obtain ⟨c, hc1, hc2⟩ := AV.refs_mem' _ r (by simpa [AV.refs] using hr')
        obtain ⟨x, _, rfl⟩ := List.mem_map.1 hc1
        exact (hav x).2 r hc2
    · exact h.elim
  -- call
  · rename_i c
    obtain ⟨callee, args, argTypes⟩ := c
    simp only at h
    split at h
    · -- a function's value
      rename_i x
      split at h
      · rename_i f caps hf
        have hx := (hav x).1
        have hcx := (hav x).2
        rw [hf] at hx hcx
        generalize hv : ρ x = vx at hx
        cases hx with | fn _ _ vs g hs hgf hr =>
        have hall : All2 (fun a v => RepA S w φ (fun r => obl.getD r Option.none) a v ∧ Closed (fun r => obl.getD r Option.none) a) (argsT cx.T av args.toList argTypes.toList ++ caps) (args.map ρ ++ vs).toList := by
          rw [Array.toList_append, Array.toList_map]
          have h2 : ∀ (l : List AV) (k : List Value), l.length = k.length → (∀ i (hi : i < l.length) (hi' : i < k.length), RepA S w φ (fun r => obl.getD r Option.none) l[i] k[i] ∧ Closed (fun r => obl.getD r Option.none) l[i]) →
              All2 (fun a v => RepA S w φ (fun r => obl.getD r Option.none) a v ∧ Closed (fun r => obl.getD r Option.none) a) l k := by
            intro l
            induction l with
            | nil => intro k hk _; cases k with | nil => exact .nil | cons => simp at hk
            | cons a l ih =>
              intro k hk hh
              cases k with
              | nil => simp at hk
              | cons b k => exact .cons (hh 0 (by simp) (by simp)) (ih k (by simpa using hk) fun i hi hi' => hh (i + 1) (by simpa using hi) (by simpa using hi'))
          have hcaps := h2 caps vs.toList (by simp [hs]) (fun i hi hi' => by
            have h1 := hgf i hi
            have : vs.toList[i] = g i := by
              have : vs.toList[i]? = some (g i) := by simpa using h1
              rw [List.getElem?_eq_getElem hi'] at this
              exact Option.some.inj this
            rw [this]
            exact ⟨hr i hi, fun r hr' => hcx r (by simpa [AV.refs] using AV.refs_mem caps i hi r hr')⟩)
          have plain : ∀ l : List Operand, All2 (fun a v => RepA S w φ (fun r => obl.getD r Option.none) a v ∧ Closed (fun r => obl.getD r Option.none) a) (l.map av ++ caps) (l.map ρ ++ vs.toList) := by
            intro l
            induction l with
            | nil => exact hcaps
            | cons a l ih => exact .cons ⟨(hav a).1, (hav a).2⟩ ih
          generalize argTypes.toList = ts
          induction args.toList generalizing ts with
          | nil => exact hcaps
          | cons a l ih =>
            cases ts with
            | nil => exact plain (a :: l)
            | cons t ts => exact .cons (hnil t a) (ih ts)
        obtain ⟨out, wr, g1, g2, ⟨fn, g3, g4, g5⟩, g6⟩ := callK_sound hC m hall h
        refine ⟨out, wr, g1, g2, ?_⟩
        have hrun : (execOp ρ o).run P w = .ok (.enter f (args.map ρ ++ vs)) w := by
          unfold execOp; rw [heq]
          simp [resolve, hv, Deferred.ofValue, invoke, callFunc, g3, g4]
          intro hb
          simp [hb] at g5
        unfold RunOK
        rw [hrun]
        exact g6
      · exact h.elim
    · -- len
      split at h
      · rename_i x t hargs htys
        have ha : args = #[x] := by rw [← Array.toArray_toList (xs := args), hargs]
        have ht : argTypes = #[t] := by rw [← Array.toArray_toList (xs := argTypes), htys]
        subst ha ht
        obtain ⟨out, h1, h2⟩ := scalar (lenK_sound (ty := o.type) hT (hnil t x).1 h) (by unfold execOp; rw [heq]; simp [resolve, invoke, builtin])
        exact ⟨out, [], h1, none, h2⟩
      · exact h.elim
    · -- append
      split at h
      · rename_i x y t u hargs htys
        have ha : args = #[x, y] := by rw [← Array.toArray_toList (xs := args), hargs]
        have ht : argTypes = #[t, u] := by rw [← Array.toArray_toList (xs := argTypes), htys]
        subst ha ht
        rw [onlyIf_iff] at h
        obtain ⟨htu, h⟩ := h
        have := beq_iff.1 htu
        subst this
        obtain ⟨out, wr, v, w', h1, h2, h3, h4⟩ := appendK_sound (ty := o.type) hT m (hnil _ x).1 (hnil _ y).1 h
        refine ⟨out, wr, h1, h2, RunOK.value (u := v) (w' := w') ?_ h4⟩
        unfold execOp; rw [heq]
        simp [resolve, invoke, builtin, h3]
      · exact h.elim
    · -- max
      split at h
      · rename_i x y hargs
        have ha : args = #[x, y] := by rw [← Array.toArray_toList (xs := args), hargs]
        subst ha
        obtain ⟨out, h1, h2⟩ := scalar (maxK_sound (hav x).1 (hav y).1 h argTypes o.type) (by unfold execOp; rw [heq]; simp [resolve, invoke, builtin])
        exact ⟨out, [], h1, none, h2⟩
      · exact h.elim
    · -- min
      split at h
      · rename_i x y hargs
        have ha : args = #[x, y] := by rw [← Array.toArray_toList (xs := args), hargs]
        subst ha
        obtain ⟨out, h1, h2⟩ := scalar (minK_sound (hav x).1 (hav y).1 h argTypes o.type) (by unfold execOp; rw [heq]; simp [resolve, invoke, builtin])
        exact ⟨out, [], h1, none, h2⟩
      · exact h.elim
    · exact h.elim
  · exact h.elim

/-- append to a box that is a slice of one struct -/
theorem appBoxK_sound {obl : List (Option OB)} (hT : TabOk P T) (m : Mem E w S φ (fun r => obl.getD r none)) {st ty self r n : Nat} {cs : List AV} {y : AV} {vx vy : Value} {K : AV → W → Prop}
    (hx : RepA S w φ (fun r => obl.getD r none) (.own r n) vx) (ho : obl.getD r none = some (.box cs)) (hy : RepA S w φ (fun r => obl.getD r none) y vy) (h : appBoxK T st self cs y obl K) :
    ∃ out wr u w', K out wr ∧ (∀ r o, (r, o) ∈ wr → r < obl.length) ∧ (Builtin.append_ #[st, st] ty #[vx, vy]).run P w = .ok u w' ∧ Post E w S φ (fun r => obl.getD r none) out wr u w' := by
  unfold appBoxK at h
  split at h
  · rename_i e hk
    rw [noO_iff, onlyIf_iff] at h
    simp only [Bool.and_eq_true] at h
    obtain ⟨hself, ⟨⟨⟨c1, c2⟩, c3⟩, c4⟩, h⟩ := h
    obtain ⟨sz, ys, h, hsv⟩ := srcK_sound m hy h
    rw [onlyIf_iff] at h
    simp only [Bool.and_eq_true] at h
    obtain ⟨⟨c5, c6⟩, hb, h⟩ := h
    have hcl := rowT_eq c1
    have hsz : (T.get e).size = cs.length := beq_iff.1 c2
    have hpos : 0 < (T.get e).size := Nat.le_of_ble_eq_true c3
    have hby : (T.get e).bytes ≤ 65536 := Nat.le_of_ble_eq_true c4
    have hsz2 : sz = (T.get e).size := beq_iff.1 c5
    subst hsz2
    have hys : ys ≠ [] := by simpa using c6
    have hypos : 0 < ys.length := List.length_pos_iff.2 hys
    obtain ⟨hs1, hs2⟩ := noO_none hself
    have hte := hT.of (t := e) (by rw [hcl]; simp)
    obtain ⟨i, z, hi, hi1, hi2, hz, hz1, hz2, _⟩ := hte.info
    obtain ⟨b, c, vs, e0, f, f1, f2, f3, f4, f5, f6⟩ := m.obj r _ ho
    cases hx with | own _ _ _ kk c0 a0 hv hkn h1 hbx =>
    obtain ⟨rfl, b', c', a1, hv2⟩ := hbx cs ho
    rw [f1] at a1
    simp only [Option.some.injEq, Prod.mk.injEq] at a1
    obtain ⟨rfl, rfl⟩ := a1
    rw [hv2]
    have hagg : RepA S w φ (fun r => obl.getD r none) (.agg cs) (.agg vs) := .agg cs vs f f3 f5 (fun i hi => (f6 i hi).1) fun i hi => (f6 i hi).2
    obtain ⟨d, wr, S1, hK, m1, k1, hd, hx1, hw1⟩ := toD_sound m (FrzExt.refl _) hagg h
    rw [onlyIf_iff] at hK
    obtain ⟨hw, hK⟩ := hK
    obtain ⟨hdc, hdr⟩ := hd.cells
    have hdl : d.cells.length = (T.get e).size := by rw [← hdc]; simp only [Value.cells]; omega
    rcases hsv.v with ⟨_, hy0⟩ | ⟨b2, o2, cap, g, rfl, hc, hr⟩
    · exact absurd hy0 hys
    have hmul : (1 + ys.length) * i.bytes ≤ 1000001 * 65536 := Nat.mul_le_mul (by omega) (by omega)
    have hmax : grownCap w (1 + ys.length) 1 e ≤ maxLen := grownCap_le_maxLen w _ 1 e (by simp only [maxLen]; omega)
    have hge := grownCap_ge w (1 + ys.length) 1 e
    have hrun := run_append_grow (P := P) w st ty e i z (kind_slice hT hk) hi hz ⟨b, 0, none⟩ 1 1 vs.toList (by simp; omega)
      (fun j v hj => by
        rw [Addr.add_none, Nat.zero_add]
        have : cellAt w b j = some v := by rw [cellAt_heap f2]; simpa using hj
        exact this) ⟨b2, o2, none⟩ ys.length cap (flat ys.length (T.get e).size g) (by rw [flat_length, hi1])
      (flat_cell (g := fun k => w.cell? ((⟨b2, o2, none⟩ : Addr).add k)) fun i j hi hj => by rw [Addr.add_none]; have := hc i j hi hj; rw [Nat.add_assoc] at this; exact this)
      (by omega) (by omega) (growslice_fits (by omega) (by omega))
    obtain ⟨md, kd⟩ := m1.drew
    generalize hcells : (vs.toList.toArray ++ (flat ys.length (T.get e).size g).toArray ++ Builtin.zeroCells z.cells (grownCap w (1 + ys.length) 1 e - (1 + ys.length))) = cells at hrun
    have hlen : cells.size = grownCap w (1 + ys.length) 1 e * (T.get e).size := by
      rw [← hcells]
      simp only [Array.size_append, List.size_toArray, size_zeroCells, hz1, flat_length, Array.length_toList, f3, ← hsz]
      rw [show (T.get e).size + ys.length * (T.get e).size = (1 + ys.length) * (T.get e).size by rw [Nat.add_mul, Nat.one_mul], ← Nat.add_mul]
      congr 1
      omega
    have hcell0 : ∀ j, j < (T.get e).size → cells[j]? = some (f j) := by
      intro j hj
      rw [← hcells, Array.getElem?_append_left (by simp; omega), Array.getElem?_append_left (by simp; omega)]
      simpa using f5 j (by omega)
    have hcell1 : ∀ i j, i < ys.length → j < (T.get e).size → cells[(i + 1) * (T.get e).size + j]? = some (g i j) := by
      intro i j hi hj
      have : (i + 1) * (T.get e).size ≤ ys.length * (T.get e).size := Nat.mul_le_mul_right _ hi
      rw [Nat.add_mul] at this ⊢
      rw [← hcells, Array.getElem?_append_left (by simp [flat_length]; omega), Array.getElem?_append_right (by simp; omega)]
      have e2 : i * (T.get e).size + 1 * (T.get e).size + j - vs.toList.toArray.size = i * (T.get e).size + j := by simp; omega
      rw [e2]
      simpa using flat_get g hi hj
    obtain ⟨m2, k2⟩ := md.alloc self (grownCap w (1 + ys.length) 1 e) (.row e (T.get e).size (d :: ys) false) cells e (hx1.none hs1) (fun r hr => by simp [OB.refs] at hr) (fun hk2 => by
      refine ⟨hpos, fun i hi => ?_, fun i hi j hj => ?_, .inr ⟨w.heap.size, grownCap w (1 + ys.length) 1 e, cells, fun i j => match i with
        | 0 => f j
        | i + 1 => g i j, upd_same _ _ _, heap_alloc_new w.drew _, by simp; omega, hmax, hlen, fun i j hi hj => ?_, fun i hi j hj => ?_, fun o _ ho => absurd (m1.bS _ _ ho) (Nat.lt_irrefl _)⟩⟩
      · cases i with
        | zero => exact hdl
        | succ i => exact hsv.hsz i (by simpa using hi)
      · cases i with
        | zero =>
          obtain ⟨u, _, q2, _⟩ := hdr j hj
          exact q2
        | succ i => exact hsv.na i (by simpa using hi) j hj
      · cases i with
        | zero => simpa using hcell0 j hj
        | succ i => exact hcell1 i j (by simpa using hi) hj
      · cases i with
        | zero =>
          obtain ⟨u, q1, _, q3⟩ := hdr j hj
          have hj' : j < cs.length := by
            have : j < d.cells.length := hj
            omega
          have hq := f5 j hj'
          simp only [Value.cells] at q1
          rw [hq] at q1
          simp only [Option.some.injEq] at q1
          subst q1
          exact (q3.mono kd.k).mono hk2.k
        | succ i => exact ((hr i (by simpa using hi) j hj).mono k1.k |>.mono kd.k).mono hk2.k)
    refine ⟨_, _, _, _, hK, fun r' o' hm => ?_, hrun, S1, _, by rw [updW_append]; exact m2, by rw [updW_append]; exact (k1.trans kd).trans k2, ?_, ?_⟩
    · rcases List.mem_append.1 hm with hm | hm
      · obtain ⟨e', sz', es', f', e1, _⟩ := hw1 r' o' hm
        exact getD_obf obl r' _ e1
      · simp only [List.mem_singleton, Prod.mk.injEq] at hm
        rw [hm.1]; exact hs2
    · refine .own self _ _ (1 + ys.length) _ (some ⟨w.heap.size, 0, none⟩) rfl (Nat.add_comm _ _) (fun e2 sz2 es2 f2 hx2 => ?_) (fun cs hx2 => ?_)
      · rw [updW_append] at hx2
        simp only [updW, upd_same, Option.some.injEq, OB.row.injEq] at hx2
        obtain ⟨rfl, rfl, rfl, rfl⟩ := hx2
        exact ⟨by simp, fun _ => .inr ⟨_, _, upd_same _ _ _, by rw [Nat.add_comm]; rfl⟩⟩
      · rw [updW_append] at hx2
        simp [updW] at hx2
    · intro r' hr'
      simp only [AV.refs, List.mem_singleton] at hr'
      subst hr'
      rw [updW_append]
      simp [updW]
  · exact h.elim

/-- ONE OPERATION of a region that does not draw. -/
theorem opX_sound {obl : List (Option OB)} {cx : Cx} (hT : TabOk P cx.T) (hC : ∀ f args objs res objs', cx.C f args objs res objs' → CallsOK P f args objs res objs') (m : Mem E w S φ (fun r => obl.getD r none)) {o : Oper} {av : Operand → AV} {ρ : Operand → Value} {K : AV → W → Prop}
    (hav : ∀ x, RepA S w φ (fun r => obl.getD r none) (av x) (ρ x) ∧ Closed (fun r => obl.getD r none) (av x)) (h : opX cx o av obl K) :
    ∃ out wr, K out wr ∧ (∀ r o, (r, o) ∈ wr → r < obl.length) ∧ RunOK P o ρ w (Post E w S φ (fun r => obl.getD r none) out wr) := by
  unfold opX at h
  split at h
  · rename_i c heq
    split at h
    · rename_i hca
      split at h
      · rename_i x y t u hargs htys
        split at h
        · rename_i r n hx
          split at h
          · rename_i cs ho
            obtain ⟨callee, args, argTypes⟩ := c
            simp only at hca hargs htys
            subst hca
            have ha : args = #[x, y] := by rw [← Array.toArray_toList (xs := args), hargs]
            have ht : argTypes = #[t, u] := by rw [← Array.toArray_toList (xs := argTypes), htys]
            subst ha ht
            rw [onlyIf_iff] at h
            obtain ⟨htu, h⟩ := h
            have := beq_iff.1 htu
            subst this
            obtain ⟨out, wr, v, w', h1, h2, h3, h4⟩ := appBoxK_sound (ty := o.type) hT m (hx ▸ (hav x).1) ho (hav y).1 h
            refine ⟨out, wr, h1, h2, RunOK.value (u := v) (w' := w') ?_ h4⟩
            unfold execOp; rw [heq]
            simp [resolve, invoke, builtin, h3]
          · exact opK_sound hT hC m hav h
        · exact opK_sound hT hC m hav h
      · exact opK_sound hT hC m hav h
    · exact opK_sound hT hC m hav h
  · exact opK_sound hT hC m hav h
end
end Go.AX
