/-
  AX, part 14: DrawOK.
-/
import Derived.Test.YtoankoojoeaooaaAx13
namespace Go.AX

/-! ancestors -/
theorem ancs_inv : ∀ (l : List Oper) (done : List Oper) (acc : List (List Nat)), acc.length = done.length →
    (∀ p (hp : p < done.length), (preds done[p]).all (fun j => Nat.blt j p) = true → ∀ k ∈ acc.getD (acc.length - 1 - p) [], k ∈ preds done[p] ∨ ∃ q ∈ preds done[p], k ∈ acc.getD (acc.length - 1 - q) []) →
    (ancs l acc).length = (done ++ l).length ∧ ∀ p (hp : p < (done ++ l).length), (preds (done ++ l)[p]).all (fun j => Nat.blt j p) = true → ∀ k ∈ (ancs l acc).getD ((ancs l acc).length - 1 - p) [], k ∈ preds (done ++ l)[p] ∨ ∃ q ∈ preds (done ++ l)[p], k ∈ (ancs l acc).getD ((ancs l acc).length - 1 - q) []
  | [], done, acc, hlen, h => by simpa [ancs, hlen] using h
  | o :: l, done, acc, hlen, h => by
    simp only [ancs]
    have := ancs_inv l (done ++ [o]) (((preds o).flatMap fun j => j :: acc.getD (acc.length - 1 - j) []) :: acc) (by simp [hlen]) ?_
    · simpa using this
    · intro p hp hb k hk
      simp only [List.length_append, List.length_cons, List.length_nil, Nat.zero_add] at hp
      have old : ∀ q, q < acc.length → (((preds o).flatMap fun j => j :: acc.getD (acc.length - 1 - j) []) :: acc).getD ((((preds o).flatMap fun j => j :: acc.getD (acc.length - 1 - j) []) :: acc).length - 1 - q) [] = acc.getD (acc.length - 1 - q) [] := by
        intro q hq
        have : (((preds o).flatMap fun j => j :: acc.getD (acc.length - 1 - j) []) :: acc).length - 1 - q = (acc.length - 1 - q) + 1 := by simp only [List.length_cons]; omega
        rw [this, List.getD_cons_succ]
      rcases Nat.lt_or_ge p done.length with hlt | hge
      · rw [old p (by omega)] at hk
        have hb' : (preds done[p]).all (fun j => Nat.blt j p) = true := by simpa [List.getElem_append_left hlt] using hb
        rw [List.getElem_append_left hlt]
        rcases h p hlt hb' k hk with h1 | ⟨q, h1, h2⟩
        · exact .inl h1
        · refine .inr ⟨q, h1, ?_⟩
          have := List.all_eq_true.1 hb' q h1
          have hqp : q < p := by simpa using this
          rw [old q (by omega)]
          exact h2
      · have hpe : p = done.length := by omega
        subst hpe
        have hge' : (done ++ [o])[done.length]'(by simp) = o := by simp
        rw [hge'] at hb ⊢
        have : (((preds o).flatMap fun j => j :: acc.getD (acc.length - 1 - j) []) :: acc).length - 1 - done.length = 0 := by simp only [List.length_cons]; omega
        rw [this, List.getD_cons_zero] at hk
        obtain ⟨q, hq, hk⟩ := List.mem_flatMap.1 hk
        rcases List.mem_cons.1 hk with rfl | hk
        · exact .inl hq
        · refine .inr ⟨q, hq, ?_⟩
          have := List.all_eq_true.1 hb q hq
          have hqp : q < done.length := by simpa using this
          rw [old q (by omega)]
          exact hk

theorem ancOf_step {ops : Array Oper} {p : Nat} {o : Oper} (ho : ops[p]? = some o) (hb : (preds o).all (fun j => Nat.blt j p) = true) {k : Nat} (hk : k ∈ ancOf ops p) :
    k ∈ preds o ∨ ∃ q ∈ preds o, k ∈ ancOf ops q := by
  obtain ⟨h1, h2⟩ := ancs_inv ops.toList [] [] rfl (fun p hp => by simp at hp)
  obtain ⟨hp, hpo⟩ := Array.getElem?_eq_some_iff.1 ho
  simp only [List.nil_append, Array.length_toList] at h1 h2
  have := h2 p (by simpa using hp)
  simp only [Array.getElem_toList, hpo, h1] at this
  unfold ancOf at hk ⊢
  exact this hb k hk

/-! conflicts -/
theorem conf_spec {ops : Array Oper} {f : Nat → List Nat × Bool} {i : Nat} {fp : List Nat} {rw' : Bool} : ∀ (n j : Nat), confOK.conf ops i fp rw' j ((List.range' j n).map f) = true →
    ∀ k, j ≤ k → k < j + n → i ∈ ancOf ops k ∨ (rw' = false ∧ (f k).2 = false) ∨ ∀ r ∈ fp, r ∉ (f k).1
  | 0, j, _, k, h1, h2 => by omega
  | n + 1, j, h, k, h1, h2 => by
    simp only [List.range'_succ, List.map_cons, confOK.conf] at h
    rw [show f j = ((f j).1, (f j).2) from rfl] at h
    simp only [Bool.and_eq_true, Bool.or_eq_true] at h
    rcases Nat.eq_or_lt_of_le h1 with rfl | hlt
    · rcases h.1 with (h0 | h0) | h0
      · refine .inr (.inl ?_)
        simpa using h0
      · exact .inl (by simpa using h0)
      · refine .inr (.inr fun r hr => ?_)
        have := List.all_eq_true.1 h0 r hr
        simpa using this
    · exact conf_spec n (j + 1) h.2 k (by omega) (by omega)

theorem confOK_spec {ops : Array Oper} {f : Nat → List Nat × Bool} : ∀ (n i : Nat), confOK ops i ((List.range' i n).map f) = true →
    ∀ j k, i ≤ j → j < k → k < i + n → j ∈ ancOf ops k ∨ ((f j).2 = false ∧ (f k).2 = false) ∨ ∀ r ∈ (f j).1, r ∉ (f k).1
  | 0, i, _, j, k, h1, h2, h3 => by omega
  | n + 1, i, h, j, k, h1, h2, h3 => by
    simp only [List.range'_succ, List.map_cons] at h
    rw [show f i = ((f i).1, (f i).2) from rfl] at h
    simp only [confOK, Bool.and_eq_true] at h
    rcases Nat.eq_or_lt_of_le h1 with rfl | hlt
    · exact conf_spec n (i + 1) h.1 k (by omega) (by omega)
    · exact confOK_spec n (i + 1) h.2 j k (by omega) h2 (by omega)

/-- the run in the text's order, as a list of events -/
theorem opsDK_run {cx : Cx} {ops : Array Oper} : ∀ (os : List Oper) (i : Nat) (evs : List (List Nat × Bool)) {st : ASt} {K : List (List Nat × Bool) → ASt → Prop},
    (∀ k (hk : k < os.length), ops[i + k]? = some os[k]) → opsDK cx ops os evs st K →
    ∃ (es : List (List Nat × Bool)) (fin : ASt), es.length = os.length ∧ K (evs.reverse ++ es) fin ∧ ∀ f : Nat → List Nat × Bool, (∀ k (hk : k < es.length), f (i + k) = es[k]) → Run cx ops f fin (List.range' i os.length) st
  | [], i, evs, st, K, _, h => ⟨[], st, rfl, by simpa [opsDK] using h, fun f _ => rfl⟩
  | o :: os, i, evs, st, K, hi, h => by
    have h : stepK cx ops o st fun st' => opsDK cx ops os ((opFp cx.np o st.tm, opRW o.op) :: evs) st' K := by
      obtain ⟨tm, ob⟩ := st; exact h
    obtain ⟨v, w, h, hs⟩ := stepK_x h
    obtain ⟨es, fin, h1, h2, h3⟩ := opsDK_run os (i + 1) _ (fun k hk => by
      have := hi (k + 1) (by simpa using hk)
      rw [show i + 1 + k = i + (k + 1) by omega, this]; rfl) h
    refine ⟨(opFp cx.np o st.tm, opRW o.op) :: es, fin, by simp [h1], by simpa using h2, fun f hf => ?_⟩
    simp only [List.length_cons, List.range'_succ]
    refine ⟨o, v, w, hi 0 (by simp), ?_, h3 f fun k hk => ?_⟩
    · have := hf 0 (by simp)
      simp only [Nat.add_zero, List.getElem_cons_zero] at this
      rw [this]; exact hs
    · have := hf (k + 1) (by simpa using hk)
      rw [show i + 1 + k = i + (k + 1) by omega, this]; rfl

theorem drawOK_spec {ops : Array Oper} (h : drawOK ops = true) {i : Nat} {o : Oper} (ho : ops[i]? = some o) :
    (preds o).all (fun j => Nat.blt j i) = true ∧ ∀ j, j < i → j ∈ ancOf ops i ∨ ∀ q, ops[j]? = some q → q.apart ops o = true := by
  obtain ⟨hi, _⟩ := Array.getElem?_eq_some_iff.1 ho
  have h1 := List.all_eq_true.1 h i (List.mem_range.2 hi)
  simp only [ho, Bool.and_eq_true] at h1
  refine ⟨h1.1.1, fun j hj => ?_⟩
  have h2 := List.all_eq_true.1 h1.2 j (List.mem_range.2 hj)
  simp only [Bool.or_eq_true] at h2
  rcases h2 with h2 | h2
  · exact .inl (by simpa using h2)
  · refine .inr fun q hq => ?_
    simpa [hq] using h2

/-- all that comes before a listed operation is listed -/
theorem anc_listed {ops : Array Oper} (hd : drawOK ops = true) {listed : Nat → Prop} (hdown : ∀ i o, ops[i]? = some o → listed i → ∀ j ∈ preds o, listed j) :
    ∀ (n i : Nat), i < n → i < ops.size → listed i → ∀ k ∈ ancOf ops i, listed k
  | 0, i, h, _, _ => by omega
  | n + 1, i, h, hi, hl => by
    intro k hk
    have ho : ops[i]? = some ops[i] := by simp [hi]
    obtain ⟨hb, _⟩ := drawOK_spec hd ho
    rcases ancOf_step ho hb hk with h1 | ⟨q, h1, h2⟩
    · exact hdown i _ ho hl k h1
    · have := List.all_eq_true.1 hb q h1
      have hq : q < i := by simpa using this
      exact anc_listed hd hdown n q (by omega) (by omega) (hdown i _ ho hl q h1) k h2

theorem ready_mem {ops : Array Oper} {listed : Array Bool} {i : Nat} (h : i ∈ Region.ready .any ops listed) :
    i < ops.size ∧ listed.getD i true = false ∧ ∃ o, ops[i]? = some o ∧ ∀ j ∈ preds o, listed.getD j false = true := by
  unfold Region.ready at h
  rw [List.mem_filter, List.mem_range] at h
  obtain ⟨hi, h⟩ := h
  have ho : ops[i]? = some ops[i] := by simp [hi]
  simp only [Bool.and_eq_true, ho, Option.map_some, Option.getD_some] at h
  refine ⟨hi, by simpa using h.1, _, ho, fun j hj => ?_⟩
  unfold preds at hj
  obtain ⟨e, he, rfl⟩ := List.mem_map.1 hj
  obtain ⟨he1, he2⟩ := List.mem_filter.1 he
  have := Array.all_eq_true'.1 h.2 e (by simpa using he1)
  simpa [he2] using this

theorem mem_ready {ops : Array Oper} {listed : Array Bool} {i : Nat} {o : Oper} (ho : ops[i]? = some o) (hl : listed.getD i true = false) (hp : ∀ j ∈ preds o, listed.getD j false = true) : i ∈ Region.ready .any ops listed := by
  obtain ⟨hi, _⟩ := Array.getElem?_eq_some_iff.1 ho
  unfold Region.ready
  rw [List.mem_filter, List.mem_range]
  refine ⟨hi, ?_⟩
  simp only [Bool.and_eq_true, ho, Option.map_some, Option.getD_some]
  refine ⟨by simp [hl], Array.all_eq_true'.2 fun e he => ?_⟩
  cases hb : Region.binds .any e with
  | false => rfl
  | true =>
    simp only [Bool.not_true, Bool.false_or]
    exact hp e.on (List.mem_map.2 ⟨e, List.mem_filter.2 ⟨by simpa using he, hb⟩, rfl⟩)

section
variable {P : Program} {E : Env} {tr : Trk}

theorem any_sound {cx : Cx} (hT : TabOk P cx.T) (hC : ∀ f args objs res objs', cx.C f args objs res objs' → CallsOK P f args objs res objs') {ops : Array Oper} {f : Nat → List Nat × Bool} {fin : ASt} {Q : Exit → Act → World → Prop}
    (hd : drawOK ops = true) (hc : ∀ j k, j < k → k < ops.size → j ∈ ancOf ops k ∨ ((f j).2 = false ∧ (f k).2 = false) ∨ ∀ r ∈ (f j).1, r ∉ (f k).1)
    (hQ : ∀ a w, RR E tr fin a w → Q .normal a w) : ∀ (fuel : Nat) (L : List Nat) (listed : Array Bool) {st : ASt} {a : Act} {w : World},
    L.length = fuel → listed.size = ops.size → L.Pairwise (· < ·) → (∀ k, k ∈ L ↔ k < ops.size ∧ listed.getD k true = false) → (∀ i o, ops[i]? = some o → listed.getD i false = true → ∀ j ∈ preds o, listed.getD j false = true) →
    Run cx ops f fin L st → RR E tr st a w → wpAny P .any ops Q fuel listed a w
  | 0, L, listed, st, a, w, hL, hsz, hp, hm, hdown, hrun, hR => by
    have : L = [] := List.length_eq_zero_iff.1 hL
    subst this
    refine ⟨?_, hQ _ _ (by rw [← (show st = fin from hrun)]; exact hR)⟩
    cases hr : Region.ready .any ops listed with
    | nil => rfl
    | cons i l =>
      obtain ⟨h1, h2, _⟩ := ready_mem (i := i) (by rw [hr]; simp)
      exact absurd ((hm i).2 ⟨h1, h2⟩) (by simp)
  | fuel + 1, L, listed, st, a, w, hL, hsz, hp, hm, hdown, hrun, hR => by
    have gd : ∀ k, k < ops.size → listed.getD k true = listed.getD k false := fun k hk => by simp [Array.getD, hsz, hk]
    refine ⟨fun hr => ?_, fun i hi => ?_⟩
    · exfalso
      cases L with
      | nil => simp at hL
      | cons i l =>
        obtain ⟨h1, h2⟩ := (hm i).1 (by simp)
        have ho : ops[i]? = some ops[i] := by simp [h1]
        have : i ∈ Region.ready .any ops listed := mem_ready ho h2 fun j hj => by
          obtain ⟨hb, _⟩ := drawOK_spec hd ho
          have := List.all_eq_true.1 hb j hj
          have hji : j < i := by simpa using this
          cases hx : listed.getD j false with
          | true => rfl
          | false =>
            have hjL := (hm j).2 ⟨by omega, by rw [gd j (by omega)]; exact hx⟩
            rcases List.mem_cons.1 hjL with e | e
            · omega
            · have := (List.pairwise_cons.1 hp).1 j e
              omega
        rw [hr] at this
        simp at this
    · obtain ⟨h1, h2, o, ho, h3⟩ := ready_mem hi
      have hiL := (hm i).2 ⟨h1, h2⟩
      obtain ⟨pre, post, rfl⟩ := List.append_of_mem hiL
      obtain ⟨hp1, hp2, hp3⟩ := List.pairwise_append.1 hp
      have hfree : ∀ j ∈ pre, Free ops f j i := by
        intro j hj
        have hji : j < i := hp3 j hj i (by simp)
        have hnl : ¬ listed.getD j false = true := by
          obtain ⟨q1, q2⟩ := (hm j).1 (by simp [hj])
          rw [gd j q1] at q2
          rw [q2]; simp
        have hna : j ∉ ancOf ops i := by
          intro hja
          obtain ⟨hb, _⟩ := drawOK_spec hd ho
          rcases ancOf_step ho hb hja with e | ⟨q, e1, e2⟩
          · exact hnl (h3 j e)
          · have := List.all_eq_true.1 hb q e1
            have hq : q < i := by simpa using this
            exact hnl (anc_listed hd (listed := fun k => listed.getD k false = true) hdown (q + 1) q (by omega) (by omega) (h3 q e1) j e2)
        refine ⟨fun x y hx hy => ?_, ?_⟩
        · rw [ho] at hy
          cases hy
          exact ((drawOK_spec hd ho).2 j hji).resolve_left hna x hx
        · exact (hc j i hji h1).resolve_left hna
      obtain ⟨o', v, wr, ho', hs, hrun'⟩ := bubble pre hfree hrun
      rw [ho] at ho'
      cases ho'
      have hstep : stepK cx ops o st fun st' => Run cx ops f fin (pre ++ post) st' := hs.go st (fun _ _ => rfl) (fun _ _ => rfl) _ hrun'
      have hnext : ∀ st' a' w', Run cx ops f fin (pre ++ post) st' → RR E tr st' a' w' → wpAny P .any ops Q fuel (listed.setIfInBounds i true) a' w' := by
        intro st' a' w' hr' hR'
        have gs : ∀ k b, (listed.setIfInBounds i true).getD k b = if k = i then true else listed.getD k b := by
          intro k b
          by_cases hk : k = i
          · subst hk; simp [Array.getD, hsz, h1]
          · have : ¬ i = k := fun e => hk e.symm
            simp only [hk, if_false, Array.getD, Array.size_setIfInBounds]
            split
            · rename_i hlt
              exact Array.getElem_setIfInBounds_ne hlt this
            · rfl
        refine any_sound hT hC hd hc hQ fuel (pre ++ post) (listed.setIfInBounds i true) (by simp at hL ⊢; omega) (by simpa using hsz) ?_ (fun k => ?_) ?_ hr' hR'
        · exact List.pairwise_append.2 ⟨hp1, (List.pairwise_cons.1 hp2).2, fun x hx y hy => hp3 x hx y (by simp [hy])⟩
        · rw [gs]
          have := hm k
          by_cases hk : k = i
          · subst hk
            simp only [if_true]
            constructor
            · intro hh
              rcases List.mem_append.1 hh with hh | hh
              · exact absurd (hp3 k hh k (by simp)) (by omega)
              · exact absurd ((List.pairwise_cons.1 hp2).1 k hh) (by omega)
            · intro hh; simp at hh
          · simp only [hk, if_false]
            rw [← this]
            simp [hk]
        · intro j q hq hl p hpq
          rw [gs] at hl ⊢
          split
          · rfl
          · by_cases hj : j = i
            · subst hj
              rw [ho] at hq; cases hq
              exact h3 p hpq
            · simp only [hj, if_false] at hl
              exact hdown j q hq hl p hpq
      unfold wpOp
      simp only [ho]
      have := step_sound (Q := Q) hT hC hstep hR (next := wpAny P .any ops Q fuel (listed.setIfInBounds i true)) hnext
      split
      · rename_i hw; rw [if_pos hw] at this; exact .inl this
      · rename_i hw; rw [if_neg hw] at this; exact this

theorem drawOK_sound {cx : Cx} (hT : TabOk P cx.T) (hC : ∀ f args objs res objs', cx.C f args objs res objs' → CallsOK P f args objs res objs') (hm : P.follows .mixedOrders = true) : DrawOK P cx := by
  intro E tr id ops st a w K Q hnp hd h hR hQ
  obtain ⟨es, fin, hlen, ⟨hconf, hK⟩, hrun⟩ := opsDK_run ops.toList 0 [] (fun k hk => by simp at hk; simp [hk]) h
  have hrun := hrun (fun k => es.getD k default) fun k hk => by simp [hk]
  simp only [Array.length_toList] at hlen hrun
  have hes : es = (List.range' 0 ops.size).map fun k => es.getD k default := by
    apply List.ext_getElem
    · simp [hlen]
    · intro k h1 h2; simp [h1]
  rw [List.reverse_nil, List.nil_append, hes] at hconf
  have hspec := confOK_spec ops.size 0 hconf
  refine wp_region_any hm ?_
  obtain ⟨S, φ, hR1, htr⟩ := hR
  obtain ⟨md, kd⟩ := hR1.mem.drew
  have hR' : RR E tr st a w.drew := ⟨S, φ, ⟨hR1.sz, fun i hi => ⟨kd.rep (hR1.tm i hi).2 (hR1.tm i hi).1, (hR1.tm i hi).2⟩, hR1.df, md⟩, htr⟩
  refine any_sound hT hC hd (f := fun k => es.getD k default) (fun j k h1 h2 => hspec j k (by omega) h1 (by omega)) (fun a w hR => hQ fin a w hK hR) ops.size (List.range' 0 ops.size) _ (by simp) (by simp) List.pairwise_lt_range' (fun k => ?_) ?_ hrun hR'
  · simp [Array.getD]
  · intro i o ho hl
    simp [Array.getD] at hl
end

end Go.AX
