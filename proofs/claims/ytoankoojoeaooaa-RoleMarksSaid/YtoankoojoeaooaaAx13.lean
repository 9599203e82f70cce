/-
  AX, part 13: regions that draw their order.
-/
import Derived.Test.YtoankoojoeaooaaAx12
namespace Go.AX

def app (dst : Option Nat) (v : AV) (w : W) (st : ASt) : ASt := ⟨putL st.tm dst v, wrL st.ob w⟩

/-- what an operation looks at is the same -/
def Look (ops : Array Oper) (o : Oper) (st st' : ASt) : Prop := ∀ t ∈ o.looksAt ops, st'.tm.getD t .dead = st.tm.getD t .dead

structure StpE (cx : Cx) (ops : Array Oper) (o : Oper) (st : ASt) (e : List Nat × Bool) (v : AV) (w : W) : Prop where
  ee : e = (opFp cx.np o st.tm, opRW o.op)
  pure : e.2 = false → w = []
  wr : ∀ q ∈ w, q.1 ∈ e.1
  go : ∀ st', Look ops o st st' → Agree e.1 st.ob st'.ob → ∀ K : ASt → Prop, K (app o.dst v w st') → stepK cx ops o st' K

theorem look_evO {ops : Array Oper} {o : Oper} {st st' : ASt} (h : Look ops o st st') : ∀ x ∈ o.op.operands.toList, evO st'.tm x = evO st.tm x := by
  intro x hx
  cases x with
  | tmp t => exact h t (List.mem_append_left _ (List.mem_filterMap.2 ⟨.tmp t, hx, rfl⟩))
  | _ => rfl

theorem flatMap_congr' {α β : Type} {f g : α → List β} : ∀ {l : List α}, (∀ x ∈ l, f x = g x) → l.flatMap f = l.flatMap g
  | [], _ => rfl
  | x :: l, h => by
    simp only [List.flatMap_cons]
    rw [h x (by simp), flatMap_congr' fun y hy => h y (by simp [hy])]

theorem look_fp {np : Nat} {ops : Array Oper} {o : Oper} {st st' : ASt} (h : Look ops o st st') : opFp np o st'.tm = opFp np o st.tm := by
  unfold opFp
  congr 1
  refine flatMap_congr' fun x hx => ?_
  have hm : x ∈ o.op.operands.toList := by
    unfold opRefs at hx
    split at hx
    all_goals first
      | (simp at hx; done)
      | exact hx
  rw [look_evO h x hm]

theorem Look.trans {ops : Array Oper} {o : Oper} {a b c : ASt} (h : Look ops o a b) (k : Look ops o b c) : Look ops o a c := fun t ht => (k t ht).trans (h t ht)
theorem Agree.trans {rs : List Nat} {a b c : List (Option OB)} (h : Agree rs a b) (k : Agree rs b c) : Agree rs a c := fun t ht => (k t ht).trans (h t ht)
theorem Look.symm {ops : Array Oper} {o : Oper} {a b : ASt} (h : Look ops o a b) : Look ops o b a := fun t ht => (h t ht).symm
theorem Agree.symm {rs : List Nat} {a b : List (Option OB)} (h : Agree rs a b) : Agree rs b a := fun t ht => (h t ht).symm

theorem StpE.move {cx : Cx} {ops : Array Oper} {o : Oper} {st st2 : ASt} {e : List Nat × Bool} {v : AV} {w : W} (h : StpE cx ops o st e v w) (hl : Look ops o st st2) (ha : Agree e.1 st.ob st2.ob) : StpE cx ops o st2 e v w :=
  ⟨by rw [look_fp hl]; exact h.ee, h.pure, h.wr, fun st' hl' ha' K hK => h.go st' (hl.trans hl') (ha.trans ha') K hK⟩

theorem set_known {tm : List AV} {t : Nat} {a : AV} (h : tm.getD t .dead = a) : tm.set t a = tm := by
  by_cases ht : t < tm.length
  · have : tm[t] = a := by simpa [ht] using h
    rw [← this]; exact List.set_getElem_self ht
  · exact List.set_eq_of_length_le (by omega)

theorem guardK_x {ops : Array Oper} {o : Oper} {tm : List AV} {yes no : List AV → Prop} (h : guardK ops o tm yes no) :
    (yes tm ∧ ∀ tm' yes' no', (∀ t ∈ o.looksAt ops, tm'.getD t .dead = tm.getD t .dead) → yes' tm' → guardK ops o tm' yes' no') ∨
    (no tm ∧ ∀ tm' yes' no', (∀ t ∈ o.looksAt ops, tm'.getD t .dead = tm.getD t .dead) → no' tm' → guardK ops o tm' yes' no') := by
  unfold guardK at h ⊢
  cases hg : o.guard with
  | none => simp only [hg] at h ⊢; exact .inl ⟨h, fun _ _ _ _ hy => hy⟩
  | some g =>
    obtain ⟨j, want⟩ := g
    simp only [hg] at h ⊢
    cases hd : (ops[j]?).bind (·.dst) with
    | none => simp only [hd] at h
    | some t =>
      simp only [hd] at h ⊢
      have hm : t ∈ o.looksAt ops := List.mem_append_right _ (by rw [hg]; simp [hd])
      split at h
      · rename_i b hb
        have hs : ∀ {tm' : List AV}, tm'.getD t .dead = tm.getD t .dead → tm'.set t (.b b) = tm' := fun hq => set_known (hq.trans hb)
        have hs0 := hs (tm' := tm) rfl
        cases b <;> cases want <;> simp only [selK, lsetK_iff] at h <;> rw [hs0] at h
        · exact .inl ⟨h, fun tm' yes' no' hl hy => by rw [hl t hm, hb]; simp only [selK, lsetK_iff]; rw [hs (hl t hm)]; exact hy⟩
        · exact .inr ⟨h, fun tm' yes' no' hl hy => by rw [hl t hm, hb]; simp only [selK, lsetK_iff]; rw [hs (hl t hm)]; exact hy⟩
        · exact .inr ⟨h, fun tm' yes' no' hl hy => by rw [hl t hm, hb]; simp only [selK, lsetK_iff]; rw [hs (hl t hm)]; exact hy⟩
        · exact .inl ⟨h, fun tm' yes' no' hl hy => by rw [hl t hm, hb]; simp only [selK, lsetK_iff]; rw [hs (hl t hm)]; exact hy⟩
      · rename_i vs hb
        exact .inr ⟨h, fun tm' yes' no' hl hy => by rw [hl t hm, hb]; exact hy⟩
      · exact h.elim

theorem stepK_x {cx : Cx} {ops : Array Oper} {o : Oper} {st : ASt} {K : ASt → Prop} (h : stepK cx ops o st K) :
    ∃ v w, K (app o.dst v w st) ∧ StpE cx ops o st (opFp cx.np o st.tm, opRW o.op) v w := by
  obtain ⟨tm, ob⟩ := st
  simp only [stepK] at h
  rcases guardK_x h with ⟨h, hg⟩ | ⟨h, hg⟩
  · obtain ⟨v, w, h1, h2, h3, h4⟩ := opK_x h
    rw [putK_iff, wrK_iff] at h1
    refine ⟨v, w, h1, rfl, h2, h3, fun st' hl ha K hK => ?_⟩
    obtain ⟨tm', ob'⟩ := st'
    simp only [stepK]
    refine hg tm' _ _ hl (h4 _ ob' (look_evO hl) ha _ ?_)
    rw [putK_iff, wrK_iff]
    exact hK
  · rw [putK_iff] at h
    refine ⟨.tup [], [], h, rfl, fun _ => rfl, fun q hq => by simp at hq, fun st' hl ha K hK => ?_⟩
    obtain ⟨tm', ob'⟩ := st'
    simp only [stepK]
    refine hg tm' _ _ hl ?_
    rw [putK_iff]
    exact hK

/-- the operations listed, run in this order, lead to 'fin' -/
def Run (cx : Cx) (ops : Array Oper) (f : Nat → List Nat × Bool) (fin : ASt) : List Nat → ASt → Prop
  | [], st => st = fin
  | i :: l, st => ∃ o v w, ops[i]? = some o ∧ StpE cx ops o st (f i) v w ∧ Run cx ops f fin l (app o.dst v w st)

/-- two operations that may change places -/
structure Free (ops : Array Oper) (f : Nat → List Nat × Bool) (j i : Nat) : Prop where
  apart : ∀ a b, ops[j]? = some a → ops[i]? = some b → a.apart ops b = true
  conf : ((f j).2 = false ∧ (f i).2 = false) ∨ ∀ r ∈ (f j).1, r ∉ (f i).1

theorem putL_look {tm : List AV} {d : Option Nat} {v : AV} {t : Nat} (h : ∀ x, d = some x → x ≠ t) : (putL tm d v).getD t .dead = tm.getD t .dead := by
  cases d with
  | none => rfl
  | some x =>
    simp only [putL, List.getD_eq_getElem?_getD]
    rw [List.getElem?_set_ne (h x rfl)]

theorem wrL_other {r : Nat} : ∀ (w : W) (ob : List (Option OB)), (∀ q ∈ w, q.1 ≠ r) → (wrL ob w)[r]? = ob[r]?
  | [], ob, _ => rfl
  | (x, o) :: w, ob, h => by
    simp only [wrL]
    rw [wrL_other w _ fun q hq => h q (by simp [hq]), List.getElem?_set_ne (h (x, o) (by simp))]

theorem wrL_set_comm {r : Nat} {o : Option OB} : ∀ (w : W) (ob : List (Option OB)), (∀ q ∈ w, q.1 ≠ r) → wrL (ob.set r o) w = (wrL ob w).set r o
  | [], ob, _ => rfl
  | (x, y) :: w, ob, h => by
    simp only [wrL]
    rw [List.set_comm _ _ (Ne.symm (h (x, y) (by simp))), wrL_set_comm w _ fun q hq => h q (by simp [hq])]

theorem wrL_comm : ∀ (w w' : W) (ob : List (Option OB)), (∀ q ∈ w, ∀ q' ∈ w', q.1 ≠ q'.1) → wrL (wrL ob w) w' = wrL (wrL ob w') w
  | [], w', ob, _ => rfl
  | (x, y) :: w, w', ob, h => by
    simp only [wrL]
    rw [wrL_comm w w' _ fun q hq q' hq' => h q (by simp [hq]) q' hq', wrL_set_comm w' ob fun q' hq' => Ne.symm (h (x, y) (by simp) q' hq')]

theorem putL_comm (tm : List AV) {x y : Option Nat} (v u : AV) (h : ∀ d, x = some d → y ≠ some d) : putL (putL tm x v) y u = putL (putL tm y u) x v := by
  cases x with
  | none => rfl
  | some d =>
    cases y with
    | none => rfl
    | some e =>
      have hne : d ≠ e := fun he => h d rfl (he ▸ rfl)
      simp only [putL]
      rw [List.set_comm _ _ hne]

theorem bubble {cx : Cx} {ops : Array Oper} {f : Nat → List Nat × Bool} {fin : ASt} {i : Nat} {post : List Nat} : ∀ (pre : List Nat) {st : ASt}, (∀ j ∈ pre, Free ops f j i) → Run cx ops f fin (pre ++ i :: post) st →
    ∃ o v w, ops[i]? = some o ∧ StpE cx ops o st (f i) v w ∧ Run cx ops f fin (pre ++ post) (app o.dst v w st)
  | [], st, _, h => h
  | j :: pre, st, hf, h => by
    obtain ⟨a, va, wa, ha, sa, h⟩ := h
    obtain ⟨b, vb, wb, hb, sb, h⟩ := bubble pre (fun k hk => hf k (by simp [hk])) h
    have hF := hf j (by simp)
    obtain ⟨p1, p2, p3⟩ := Oper.apart_spec (hF.apart a b ha hb)
    -- b sees nothing of a
    have lb : Look ops b st (app a.dst va wa st) := fun t ht => putL_look fun x hx e => p1 x hx (e ▸ ht)
    have ab : Agree (f i).1 st.ob (app a.dst va wa st).ob := fun r hr => wrL_other wa _ fun q hq e => by
      rcases hF.conf with ⟨c1, _⟩ | c
      · rw [sa.pure c1] at hq; simp at hq
      · exact c q.1 (sa.wr q hq) (e ▸ hr)
    have sb0 : StpE cx ops b st (f i) vb wb := sb.move lb.symm ab.symm
    have la : Look ops a st (app b.dst vb wb st) := fun t ht => putL_look fun x hx e => p3 x hx (e ▸ ht)
    have aa : Agree (f j).1 st.ob (app b.dst vb wb st).ob := fun r hr => wrL_other wb _ fun q hq e => by
      rcases hF.conf with ⟨_, c2⟩ | c
      · rw [sb.pure c2] at hq; simp at hq
      · exact c r hr (e ▸ sb.wr q hq)
    have sa' : StpE cx ops a (app b.dst vb wb st) (f j) va wa := sa.move la aa
    refine ⟨b, vb, wb, hb, sb0, a, va, wa, ha, sa', ?_⟩
    have he : app a.dst va wa (app b.dst vb wb st) = app b.dst vb wb (app a.dst va wa st) := by
      simp only [app]
      rw [putL_comm st.tm va vb p2, wrL_comm wa wb]
      intro q hq q' hq' e
      rcases hF.conf with ⟨c1, _⟩ | c
      · rw [sa.pure c1] at hq; simp at hq
      · exact c q.1 (sa.wr q hq) (e ▸ sb.wr q' hq')
    rw [he]
    exact h

end Go.AX
