/-
  AX, part 7: calls.
-/
import Derived.Test.YtoankoojoeaooaaAx6
namespace Go.AX

def ofL (objs : List OB) : Nat → Option OB := fun r => objs[r]?

/-- the blocks that are handed over -/
def PBof (φ : Nat → Option (Nat × Nat)) (n : Nat) : Nat → Prop := fun b => ∃ r c, r < n ∧ φ r = some (b, c)

/-- WHAT IS SAID OF A FUNCTION: called with these arguments and objects it hands back this result, and leaves the objects so; nothing else that was there has turned. -/
def CallsOK (P : Program) (f : FuncId) (args : List AV) (objs : List OB) (res : AV) (objs' : List OB) : Prop :=
  (∃ fn, P.funcs[f]? = some fn ∧ fn.name ≠ "runtime.NumGoroutine" ∧ fn.body.isSome = true) ∧
  ∀ (w : World) (S : Sc) (φ : Nat → Option (Nat × Nat)) (vals : Array Value), vals.size = args.length →
    (∀ i (hi : i < args.length), RepA S w φ (ofL objs) args[i] (vals.getD i undef) ∧ Closed (ofL objs) args[i]) → (∀ r, objs.length ≤ r → φ r = none) →
    Mem ⟨w, S, PBof φ objs.length⟩ w S φ (ofL objs) →
    Calls P f vals w fun e w' => ∃ v, e = .returned v ∧ ∃ S' φ', Mem ⟨w, S, PBof φ objs.length⟩ w' S' φ' (ofL objs') ∧ Kept w S φ (ofL objs) w' S' φ' (ofL objs') ∧ RepA S' w' φ' (ofL objs') res v ∧ Closed (ofL objs') res

def sel {α : Type} (ρ : List Nat) (g : Nat → Option α) : Nat → Option α := fun i => (ρ[i]?).bind g

section
variable {P : Program} {T : TT} {E : Env} {w : World} {S : Sc} {φ : Nat → Option (Nat × Nat)} {ob : Nat → Option OB}

theorem ref_go (r : Nat) : ∀ (l : List Nat) (n : Nat) (F N : Nat → Prop), argK.go r l n F N → (∃ k, l[k]? = some r ∧ F (n + k)) ∨ (r ∉ l ∧ N (n + l.length))
  | [], n, F, N, h => .inr ⟨by simp, h⟩
  | x :: l, n, F, N, h => by
    simp only [argK.go] at h
    cases hb : Nat.beq x r with
    | true =>
      simp only [hb] at h
      have := Nat.eq_of_beq_eq_true hb
      exact .inl ⟨0, by simp [this], h⟩
    | false =>
      simp only [hb] at h
      have hne : x ≠ r := fun e => by subst e; rw [show Nat.beq x x = true from Nat.beq_refl x] at hb; simp at hb
      rcases ref_go r l (n + 1) F N h with ⟨k, h1, h2⟩ | ⟨h1, h2⟩
      · exact .inl ⟨k + 1, by simpa using h1, by rw [show n + (k + 1) = n + 1 + k by omega]; exact h2⟩
      · exact .inr ⟨by simp [h1, Ne.symm hne], by rw [show n + (x :: l).length = n + 1 + l.length by simp; omega]; exact h2⟩

/-- 'ρ'' goes on from 'ρ' -/
def Ext (ρ ρ' : List Nat) : Prop := ∃ l, ρ' = ρ ++ l

theorem Ext.refl (ρ : List Nat) : Ext ρ ρ := ⟨[], by simp⟩
theorem Ext.trans {a b c : List Nat} (h : Ext a b) (k : Ext b c) : Ext a c := by
  obtain ⟨l, rfl⟩ := h; obtain ⟨l', rfl⟩ := k; exact ⟨l ++ l', by simp⟩
theorem Ext.get {ρ ρ' : List Nat} (h : Ext ρ ρ') {i : Nat} (hi : i < ρ.length) : ρ'[i]? = ρ[i]? := by
  obtain ⟨l, rfl⟩ := h
  exact List.getElem?_append_left hi

theorem refK_sound {r : Nat} {ρ : List Nat} {K : Nat → List Nat → Prop} (hn : ρ.Nodup) (h : argK.refK r ρ K) : ∃ i ρ', K i ρ' ∧ ρ'[i]? = some r ∧ Ext ρ ρ' ∧ ρ'.Nodup ∧ ∀ x ∈ ρ', x ∈ ρ ∨ x = r := by
  rcases ref_go r ρ 0 _ _ h with ⟨k, h1, h2⟩ | ⟨h1, h2⟩
  · rw [Nat.zero_add] at h2
    exact ⟨k, ρ, h2, h1, .refl ρ, hn, fun x hx => .inl hx⟩
  · rw [Nat.zero_add] at h2
    refine ⟨_, _, h2, by simp, ⟨[r], rfl⟩, ?_, fun x hx => ?_⟩
    · rw [List.nodup_append]
      exact ⟨hn, by simp, fun a ha b hb => by simp at hb; subst hb; exact fun e => h1 (e ▸ ha)⟩
    · simpa using hx

/-- a value, seen by the callee -/
def SeenAs (S : Sc) (w : World) (φ : Nat → Option (Nat × Nat)) (ob : Nat → Option OB) (ρ : List Nat) (a : AV) (v : Value) : Prop :=
  RepA S w (sel ρ φ) (sel ρ ob) a v ∧ ∀ r ∈ a.refs, r < ρ.length

theorem SeenAs.ext {ρ ρ' : List Nat} {a : AV} {v : Value} (h : SeenAs S w φ ob ρ a v) (hx : Ext ρ ρ') : SeenAs S w φ ob ρ' a v := by
  obtain ⟨h1, h2⟩ := h
  refine ⟨h1.mono (fun _ _ h => ⟨h, rfl⟩) fun r hr => .inl ?_, fun r hr => ?_⟩
  · have := hx.get (h2 r hr)
    simp [sel, this]
  · have := h2 r hr
    obtain ⟨l, rfl⟩ := hx
    simp; omega

theorem SeenAs.kept {w' : World} {S' : Sc} {ob' : Nat → Option OB} {ρ : List Nat} {a : AV} {v : Value} (h : SeenAs S w φ ob ρ a v) (k : Kept w S φ ob w' S' φ ob') (hc : ∀ r ∈ ρ, ob r ≠ none) : SeenAs S' w' φ ob' ρ a v := by
  obtain ⟨h1, h2⟩ := h
  refine ⟨h1.mono k.k fun r hr => ?_, h2⟩
  have hlt := h2 r hr
  have hg : ρ[r]? = some ρ[r] := List.getElem?_eq_getElem hlt
  have := k.r ρ[r] (hc _ (List.getElem_mem hlt))
  simpa [RefOK, sel, hg] using this

theorem seen_own {ρ : List Nat} {r i n : Nat} {v : Value} (h : RepA S w φ ob (.own r n) v) (hi : ρ[i]? = some r) : SeenAs S w φ ob ρ (.own i n) v := by
  have hlt := (List.getElem?_eq_some_iff.1 hi).1
  refine ⟨?_, fun r' hr' => by simp only [AV.refs, List.mem_singleton] at hr'; omega⟩
  cases h with | own _ _ _ k c a0 hv hk h1 hb =>
  refine .own i n v k c a0 hv hk (fun e sz es frz hx => ?_) fun cs hx => ?_
  · simp only [sel, hi, Option.bind_some] at hx
    obtain ⟨g1, g2⟩ := h1 e sz es frz hx
    refine ⟨g1, fun hn => ?_⟩
    have := g2 hn
    unfold OwnV at *
    simpa [sel, hi] using this
  · simp only [sel, hi, Option.bind_some] at hx
    obtain ⟨g1, b, c', g2, g3⟩ := hb cs hx
    exact ⟨g1, b, c', by simpa [sel, hi] using g2, g3⟩

theorem seen_ref {ρ : List Nat} {r i off : Nat} {v : Value} (h : RepA S w φ ob (.ref r off) v) (hi : ρ[i]? = some r) : SeenAs S w φ ob ρ (.ref i off) v := by
  have hlt := (List.getElem?_eq_some_iff.1 hi).1
  refine ⟨?_, fun r' hr' => by simp only [AV.refs, List.mem_singleton] at hr'; omega⟩
  cases h with | ref _ _ b c hφ hb =>
  exact .ref i off b c (by simpa [sel, hi] using hφ) fun e sz es frz hx => hb e sz es frz (by simpa [sel, hi] using hx)

theorem seen_mp {ρ : List Nat} {r i : Nat} {v : Value} (h : RepA S w φ ob (.mp r) v) (hi : ρ[i]? = some r) : SeenAs S w φ ob ρ (.mp i) v := by
  have hlt := (List.getElem?_eq_some_iff.1 hi).1
  refine ⟨?_, fun r' hr' => by simp only [AV.refs, List.mem_singleton] at hr'; omega⟩
  cases h with | mp _ b c hφ hb hc =>
  exact .mp i b c (by simpa [sel, hi] using hφ) (fun e sz es frz hx => hb e sz es frz (by simpa [sel, hi] using hx)) fun cs hx => hc cs (by simpa [sel, hi] using hx)

theorem argK_sound {obl : List (Option OB)} {keep : Bool} (m : Mem E w S φ ob) (hx : FrzExt (fun r => obl.getD r none) ob) {a : AV} {v : Value} {ρ : List Nat} (hn : ρ.Nodup) {K : AV → List Nat → W → Prop} (ha : RepA S w φ ob a v)
    (hcl : Closed (fun r => obl.getD r none) a) (h : argK keep obl a ρ K) :
    ∃ a' ρ' wr S', K a' ρ' wr ∧ Mem E w S' φ (updW ob wr) ∧ Kept w S φ ob w S' φ (updW ob wr) ∧ FrzExt (fun r => obl.getD r none) (updW ob wr) ∧ FrzW obl wr ∧ Ext ρ ρ' ∧ ρ'.Nodup ∧
      (∀ x ∈ ρ', x ∈ ρ ∨ obl.getD x none ≠ none) ∧ SeenAs S' w φ (updW ob wr) ρ' a' v := by
  have data : ∀ {K : D → W → Prop}, toD obl a K → ∃ x wr S', K x wr ∧ Mem E w S' φ (updW ob wr) ∧ Kept w S φ ob w S' φ (updW ob wr) ∧ FrzExt (fun r => obl.getD r none) (updW ob wr) ∧ FrzW obl wr ∧ SeenAs S' w φ (updW ob wr) ρ (.d x) v := by
    intro K h
    obtain ⟨x, wr, S', h1, h2, h3, h4, h5, h6⟩ := toD_sound m hx ha h
    exact ⟨x, wr, S', h1, h2, h3, h5, h6, .d _ _ h4, fun r hr => by simp [AV.refs] at hr⟩
  cases a <;> simp only [argK] at h
  case d x =>
    have h' : toD obl (.d x) (fun x _ => K (.d x) ρ []) := h
    rw [normK_iff] at h
    cases ha with | d _ _ ha =>
    exact ⟨_, ρ, [], S, h, m, .refl w S φ ob, hx, fun _ _ hm => by simp at hm, .refl ρ, hn, fun x hx => .inl hx, .d _ _ ha.norm, fun r hr => by simp [AV.refs] at hr⟩
  case agg cs =>
    obtain ⟨x, wr, S', h1, h2, h3, h4, h5, h6⟩ := data h
    exact ⟨_, ρ, wr, S', h1, h2, h3, h4, h5, .refl ρ, hn, fun x hx => .inl hx, h6⟩
  case ref r off =>
    obtain ⟨i, ρ', h1, h2, h3, h4, h5⟩ := refK_sound hn h
    refine ⟨_, ρ', [], S, h1, m, .refl w S φ ob, hx, fun _ _ hm => by simp at hm, h3, h4, fun x hx' => ?_, seen_ref ha h2⟩
    rcases h5 x hx' with h | h
    · exact .inl h
    · exact .inr (hcl x (by simp [AV.refs, h]))
  case mp r =>
    obtain ⟨i, ρ', h1, h2, h3, h4, h5⟩ := refK_sound hn h
    refine ⟨_, ρ', [], S, h1, m, .refl w S φ ob, hx, fun _ _ hm => by simp at hm, h3, h4, fun x hx' => ?_, seen_mp ha h2⟩
    rcases h5 x hx' with h | h
    · exact .inl h
    · exact .inr (hcl x (by simp [AV.refs, h]))
  case own r n =>
    cases keep with
    | true =>
      obtain ⟨i, ρ', h1, h2, h3, h4, h5⟩ := refK_sound hn h
      refine ⟨_, ρ', [], S, h1, m, .refl w S φ ob, hx, fun _ _ hm => by simp at hm, h3, h4, fun x hx' => ?_, seen_own ha h2⟩
      rcases h5 x hx' with h | h
      · exact .inl h
      · exact .inr (hcl x (by simp [AV.refs, h]))
    | false =>
      obtain ⟨x, wr, S', h1, h2, h3, h4, h5, h6⟩ := data h
      exact ⟨_, ρ, wr, S', h1, h2, h3, h4, h5, .refl ρ, hn, fun x hx => .inl hx, h6⟩
  case eref cs =>
    refine ⟨_, ρ, [], S, h, m, .refl w S φ ob, hx, fun _ _ hm => by simp at hm, .refl ρ, hn, fun x hx => .inl hx, ?_, fun r hr => by simp [AV.refs] at hr⟩
    exact ha.mono (fun _ _ h => ⟨h, rfl⟩) fun r hr => by simp [AV.refs] at hr
  case fn f caps =>
    cases ha with | fn _ _ vs g hs hf hr =>
    have key : ∀ (caps : List AV) (off : Nat) (ρ : List Nat) (K : List AV → List Nat → Prop) (_ : ρ.Nodup) (_ : ∀ i (hi : i < caps.length), RepA S w φ ob caps[i] (g (off + i))) (_ : ∀ r ∈ AV.refs.refsL caps, obl.getD r none ≠ none)
        (_ : argK.capsK caps ρ K), ∃ caps' ρ', K caps' ρ' ∧ caps'.length = caps.length ∧ Ext ρ ρ' ∧ ρ'.Nodup ∧ (∀ x ∈ ρ', x ∈ ρ ∨ obl.getD x none ≠ none) ∧ ∀ i (hi : i < caps'.length), SeenAs S w φ ob ρ' caps'[i] (g (off + i)) := by
      intro caps
      induction caps with
      | nil => intro off ρ K hn _ _ h; exact ⟨[], ρ, h, rfl, .refl ρ, hn, fun x hx => .inl hx, fun i hi => by simp at hi⟩
      | cons c caps ih =>
        intro off ρ K hn hr hc h
        cases c <;> simp only [argK.capsK] at h
        case ref r o =>
          obtain ⟨i, ρ1, h1, h2, h3, h4, h5⟩ := refK_sound hn h
          obtain ⟨caps', ρ2, g1, g2, g3, g4, g5, g6⟩ := ih (off + 1) ρ1 _ h4 (fun i hi => by
            have := hr (i + 1) (by simpa using hi)
            simpa [Nat.add_assoc, Nat.add_comm 1 i] using this) (fun r hr => hc r (by simp [AV.refs.refsL, hr])) h1
          refine ⟨_, ρ2, g1, by simp [g2], h3.trans g3, g4, fun x hx => ?_, fun j hj => ?_⟩
          · rcases g5 x hx with h | h
            · rcases h5 x h with h | h
              · exact .inl h
              · exact .inr (hc x (by simp [AV.refs.refsL, AV.refs, h]))
            · exact .inr h
          · cases j with
            | zero =>
              have := hr 0 (by simp)
              simp only [List.getElem_cons_zero] at this
              exact (seen_ref this h2).ext g3
            | succ j =>
              have := g6 j (by simpa using hj)
              simpa [Nat.add_assoc, Nat.add_comm 1 j] using this
    obtain ⟨caps', ρ', g1, g2, g3, g4, g5, g6⟩ := key caps 0 ρ _ hn (fun i hi => by simpa using hr i hi) (fun r hr => hcl r (by simpa [AV.refs] using hr)) h
    refine ⟨_, ρ', [], S, g1, m, .refl w S φ ob, hx, fun _ _ hm => by simp at hm, g3, g4, g5, .fn f caps' vs g (by omega) (fun i hi => hf i (by omega)) (fun i hi => by have := (g6 i hi).1; rw [Nat.zero_add] at this; exact this), fun r hr => ?_⟩
    obtain ⟨c, hc1, hc2⟩ := AV.refs_mem' caps' r (by simpa [AV.refs] using hr)
    obtain ⟨j, hj, rfl⟩ := List.getElem_of_mem hc1
    exact (g6 j hj).2 r hc2

theorem argsK_sound {obl : List (Option OB)} {keep : List Bool} : ∀ {as : List AV} {vs : List Value} {S : Sc} {ob : Nat → Option OB} {ρ : List Nat} {K : List AV → List Nat → W → Prop} (_ : Mem E w S φ ob) (_ : FrzExt (fun r => obl.getD r none) ob) (_ : ρ.Nodup)
    (_ : All2 (fun a v => RepA S w φ ob a v ∧ Closed (fun r => obl.getD r none) a) as vs) (_ : argsK keep obl as ρ K),
    ∃ as' ρ' wr S', K as' ρ' wr ∧ Mem E w S' φ (updW ob wr) ∧ Kept w S φ ob w S' φ (updW ob wr) ∧ FrzExt (fun r => obl.getD r none) (updW ob wr) ∧ FrzW obl wr ∧ Ext ρ ρ' ∧ ρ'.Nodup ∧
      (∀ x ∈ ρ', x ∈ ρ ∨ obl.getD x none ≠ none) ∧ All2 (fun a v => SeenAs S' w φ (updW ob wr) ρ' a v) as' vs
  | [], [], S, ob, ρ, K, m, hx, hn, _, h => ⟨[], ρ, [], S, h, m, .refl w S φ ob, hx, fun _ _ hm => by simp at hm, .refl ρ, hn, fun x hx => .inl hx, .nil⟩
  | a :: as, v :: vs, S, ob, ρ, K, m, hx, hn, hv, h => by
    cases hv with | cons h1 h2 =>
    simp only [argsK] at h
    obtain ⟨a', ρ1, wr, S1, hK, m1, k1, hx1, hw1, e1, n1, r1, s1⟩ := argK_sound m hx hn h1.1 h1.2 h
    have hcl : ∀ {r : Nat}, obl.getD r none ≠ none → ob r ≠ none := by
      intro r hr
      rcases hx r with e1 | ⟨e, sz, es, f, e1, e2⟩
      · rw [e1]; exact hr
      · rw [e2]; simp
    obtain ⟨as', ρ2, wr2, S2, g1, g2, g3, g4, g5, g6, g7, g8, g9⟩ := argsK_sound m1 hx1 n1 (h2.imp fun a v hav => ⟨k1.rep (fun r hr => hcl (hav.2 r hr)) hav.1, hav.2⟩) hK
    refine ⟨a' :: as', ρ2, wr ++ wr2, S2, g1, by rw [updW_append]; exact g2, by rw [updW_append]; exact k1.trans g3, by rw [updW_append]; exact g4, fun r o hm => ?_, e1.trans g6, g7, fun x hx' => ?_, ?_⟩
    · rcases List.mem_append.1 hm with hm | hm
      · exact hw1 r o hm
      · exact g5 r o hm
    · rcases g8 x hx' with h | h
      · exact r1 x h
      · exact .inr h
    · rw [updW_append]
      refine .cons ?_ g9
      -- the references of a' are below ρ1's length; each of them is there
      obtain ⟨s2, s3⟩ := s1.ext g6
      refine ⟨s2.mono g3.k fun r hr => ?_, s3⟩
      have hlt := s1.2 r hr
      have hlt2 := s3 r hr
      have hg1 : ρ1[r]? = some ρ1[r] := List.getElem?_eq_getElem hlt
      have hg2 : ρ2[r]? = some ρ1[r] := (g6.get hlt).trans hg1
      by_cases hno : updW ob wr ρ1[r] = none
      · have hno2 : obl.getD ρ1[r] none = none := by
          rcases hx1 ρ1[r] with e | ⟨e, sz, es, f, _, e2⟩
          · exact e.symm.trans hno
          · rw [hno] at e2; simp at e2
        have : updW (updW ob wr) wr2 ρ1[r] = none := g4.none hno2
        refine .inl ⟨by simp [sel, hg2], ?_, ?_⟩ <;> simp [sel, hg2, this, hno]
      · have := g3.r ρ1[r] hno
        simpa [RefOK, sel, hg2] using this
  | [], _ :: _, _, _, _, _, _, _, _, hv, _ => by cases hv
  | _ :: _, [], _, _, _, _, _, _, _, hv, _ => by cases hv

theorem cellsD_iff (cs : List AV) (K : List AV → Prop) : objsK.cellsD cs K ↔ (closedO (.box cs) = true ∧ K cs) := by
  induction cs generalizing K with
  | nil => simp [objsK.cellsD, closedO]
  | cons c cs ih =>
    cases c <;> simp only [objsK.cellsD, closedO, List.all_cons] <;> simp
    simpa [closedO] using ih _

theorem objsK_sound {obl : List (Option OB)} : ∀ {ρ : List Nat} {K : List OB → Prop}, objsK obl ρ K → ∃ objs, K objs ∧ objs.length = ρ.length ∧ ∀ i (hi : i < objs.length) (hi' : i < ρ.length), obl.getD ρ[i] none = some objs[i] ∧ closedO objs[i] = true
  | [], K, h => ⟨[], h, rfl, fun i hi => by simp at hi⟩
  | r :: ρ, K, h => by
    simp only [objsK, findO_iff] at h
    obtain ⟨o, ho, h⟩ := h
    cases o with
    | box cs =>
      simp only [cellsD_iff] at h
      obtain ⟨hc, h⟩ := h
      obtain ⟨objs, g1, g2, g3⟩ := objsK_sound h
      refine ⟨.box cs :: objs, g1, by simp [g2], fun i hi hi' => ?_⟩
      cases i with
      | zero => exact ⟨ho, hc⟩
      | succ i => exact g3 i (by simpa using hi) (by simpa using hi')
    | row e sz es f =>
      simp only at h
      obtain ⟨objs, g1, g2, g3⟩ := objsK_sound h
      refine ⟨.row e sz es f :: objs, g1, by simp [g2], fun i hi hi' => ?_⟩
      cases i with
      | zero => exact ⟨ho, rfl⟩
      | succ i => exact g3 i (by simpa using hi) (by simpa using hi')
    | map k e es =>
      simp only at h
      obtain ⟨objs, g1, g2, g3⟩ := objsK_sound h
      refine ⟨.map k e es :: objs, g1, by simp [g2], fun i hi hi' => ?_⟩
      cases i with
      | zero => exact ⟨ho, rfl⟩
      | succ i => exact g3 i (by simpa using hi) (by simpa using hi')

theorem backK_sound {self : Nat} : ∀ {ρ : List Nat} {objs : List OB} {K : W → Prop}, backK ρ self objs K →
    ∃ wr, K wr ∧ (∀ o ∈ objs, closedO o = true) ∧ (objs.length = ρ.length ∨ objs.length = ρ.length + 1) ∧ wr = (ρ ++ [self]).zip objs
  | [], [], K, h => ⟨[], h, by simp, .inl rfl, rfl⟩
  | [], [o], K, h => by
    simp only [backK] at h
    split at h
    · rename_i hc; exact ⟨_, h, by simpa using hc, .inr rfl, rfl⟩
    · exact h.elim
  | r :: ρ, o :: os, K, h => by
    simp only [backK] at h
    split at h
    · rename_i hc
      obtain ⟨wr, g1, g2, g3, g4⟩ := backK_sound h
      refine ⟨_, g1, fun x hx => ?_, by simpa using g3, by simp [g4]⟩
      rcases List.mem_cons.1 hx with e | e
      · rw [e]; exact hc
      · exact g2 x e
    · exact h.elim
  | [], _ :: _ :: _, K, h => by simp [backK] at h
  | _ :: _, [], K, h => by simp [backK] at h

/-- an object of data alone, under other names -/
theorem ObjOK.rename {φ' : Nat → Option (Nat × Nat)} {ob' : Nat → Option OB} {r r' : Nat} {o : OB} (h : ObjOK S w φ ob r o) (hc : closedO o = true) (hφ : φ' r' = φ r) : ObjOK S w φ' ob' r' o := by
  cases o with
  | box cs =>
    obtain ⟨b, c, vs, e, f, h1, h2, h3, h4, h5, h6⟩ := h
    refine ⟨b, c, vs, e, f, hφ.trans h1, h2, h3, h4, h5, fun j hj => ⟨(h6 j hj).1, ?_⟩⟩
    have h7 := (h6 j hj).2
    have : ∃ x, cs[j] = .d x := by
      simp only [closedO, List.all_eq_true] at hc
      have := hc cs[j] (List.getElem_mem hj)
      revert this
      cases cs[j] <;> simp
    obtain ⟨x, hx⟩ := this
    rw [hx] at h7 ⊢
    cases h7 with | d _ _ h => exact .d _ _ h
  | row e sz es frz =>
    obtain ⟨h0, h1, h2, h3⟩ := h
    exact ⟨h0, h1, h2, h3.imp (fun g => ⟨hφ.trans g.1, g.2⟩) fun ⟨b, cap, vs, f, g1, g⟩ => ⟨b, cap, vs, f, hφ.trans g1, g⟩⟩
  | map k e es =>
    obtain ⟨b, c, arr, clock, h1, h2⟩ := h
    exact ⟨b, c, arr, clock, hφ.trans h1, h2⟩

theorem closedO_refs {o : OB} (h : closedO o = true) : o.refs = [] := by
  cases o with
  | box cs =>
    simp only [OB.refs]
    simp only [closedO, List.all_eq_true] at h
    induction cs with
    | nil => rfl
    | cons c cs ih =>
      simp only [AV.refs.refsL]
      rw [ih fun x hx => h x (by simp [hx])]
      have := h c (by simp)
      revert this
      cases c <;> simp [AV.refs]
  | row => rfl
  | map => rfl

/-- a result under the caller's names -/
theorem renK_sound {ρ : List Nat} {self : Nat} {φ' : Nat → Option (Nat × Nat)} {ob' : Nat → Option OB} {a : AV} {v : Value} {K : AV → Prop} (ha : RepA S w φ ob a v) (hcl : Closed ob a)
    (hr : ∀ i, ob i ≠ none → φ' (ρ.getD i self) = φ i ∧ ob' (ρ.getD i self) = ob i) (h : renK ρ self a K) : ∃ a', K a' ∧ RepA S w φ' ob' a' v ∧ Closed ob' a' := by
  have own : ∀ {i n : Nat} {v : Value}, RepA S w φ ob (.own i n) v → ob i ≠ none → RepA S w φ' ob' (.own (ρ.getD i self) n) v := by
    intro i n v h hne
    obtain ⟨e1, e2⟩ := hr i hne
    cases h with | own _ _ _ k c a0 hv hk h1 hb =>
    refine .own _ n v k c a0 hv hk (fun e sz es frz hx => ?_) (fun cs hx => by
      obtain ⟨g1, b, c', g2, g3⟩ := hb cs (e2 ▸ hx)
      exact ⟨g1, b, c', e1.trans g2, g3⟩)
    rw [e2] at hx
    obtain ⟨g1, g2⟩ := h1 e sz es frz hx
    refine ⟨g1, fun hn => ?_⟩
    have := g2 hn
    unfold OwnV at *
    rwa [e1]
  have ref : ∀ {i off : Nat} {v : Value}, RepA S w φ ob (.ref i off) v → ob i ≠ none → RepA S w φ' ob' (.ref (ρ.getD i self) off) v := by
    intro i off v h hne
    obtain ⟨e1, e2⟩ := hr i hne
    cases h with | ref _ _ b c hφ hb => exact .ref _ off b c (e1.trans hφ) fun e sz es frz hx => hb e sz es frz (e2 ▸ hx)
  have cl : ∀ {i : Nat}, ob i ≠ none → ob' (ρ.getD i self) ≠ none := fun {i} hne => by rw [(hr i hne).2]; exact hne
  have mp : ∀ {i : Nat} {v : Value}, RepA S w φ ob (.mp i) v → ob i ≠ none → RepA S w φ' ob' (.mp (ρ.getD i self)) v := by
    intro i v h hne
    obtain ⟨e1, e2⟩ := hr i hne
    cases h with | mp _ b c hφ hb hc => exact .mp _ b c (e1.trans hφ) (fun e sz es frz hx => hb e sz es frz (e2 ▸ hx)) fun cs hx => hc cs (e2 ▸ hx)
  cases a <;> simp only [renK] at h
  case d x => cases ha with | d _ _ ha => exact ⟨_, h, .d _ _ ha, closed_d _ _⟩
  case ref i off =>
    have hne := hcl i (by simp [AV.refs])
    exact ⟨_, h, ref ha hne, fun r hr' => by simp only [AV.refs, List.mem_singleton] at hr'; rw [hr']; exact cl hne⟩
  case own i n =>
    have hne := hcl i (by simp [AV.refs])
    exact ⟨_, h, own ha hne, fun r hr' => by simp only [AV.refs, List.mem_singleton] at hr'; rw [hr']; exact cl hne⟩
  case mp i =>
    have hne := hcl i (by simp [AV.refs])
    exact ⟨_, h, mp ha hne, fun r hr' => by simp only [AV.refs, List.mem_singleton] at hr'; rw [hr']; exact cl hne⟩
  case tup cs =>
    cases ha with | tup _ vs f hs hf hrr =>
    have key : ∀ (cs : List AV) (off : Nat) (K : List AV → Prop) (_ : ∀ i (hi : i < cs.length), RepA S w φ ob cs[i] (f (off + i))) (_ : ∀ c ∈ cs, Closed ob c) (_ : renK.renTup ρ self cs K),
        ∃ cs', K cs' ∧ cs'.length = cs.length ∧ ∀ i (hi : i < cs'.length), RepA S w φ' ob' cs'[i] (f (off + i)) ∧ Closed ob' cs'[i] := by
      intro cs
      induction cs with
      | nil => intro off K _ _ h; exact ⟨[], h, rfl, fun i hi => by simp at hi⟩
      | cons c cs ih =>
        intro off K hr' hc h
        have h0 := hr' 0 (by simp)
        simp only [List.getElem_cons_zero, Nat.add_zero] at h0
        have hc0 := hc c (by simp)
        have go : ∀ (c' : AV), RepA S w φ' ob' c' (f off) → Closed ob' c' → renK.renTup ρ self cs (fun l => K (c' :: l)) → ∃ cs', K cs' ∧ cs'.length = (c :: cs).length ∧ ∀ i (hi : i < cs'.length), RepA S w φ' ob' cs'[i] (f (off + i)) ∧ Closed ob' cs'[i] := by
          intro c' q1 q2 h
          obtain ⟨cs', g1, g2, g3⟩ := ih (off + 1) _ (fun i hi => by
            have := hr' (i + 1) (by simpa using hi)
            simpa [Nat.add_assoc, Nat.add_comm 1 i] using this) (fun x hx => hc x (by simp [hx])) h
          refine ⟨c' :: cs', g1, by simp [g2], fun i hi => ?_⟩
          cases i with
          | zero => exact ⟨q1, q2⟩
          | succ i =>
            have := g3 i (by simpa using hi)
            simpa [Nat.add_assoc, Nat.add_comm 1 i] using this
        cases c <;> simp only [renK.renTup] at h
        case d x => cases h0 with | d _ _ h0 => exact go _ (.d _ _ h0) (closed_d _ _) h
        case ref i o =>
          have hne := hc0 i (by simp [AV.refs])
          exact go _ (ref h0 hne) (fun r hr' => by simp only [AV.refs, List.mem_singleton] at hr'; rw [hr']; exact cl hne) h
        case own i o =>
          have hne := hc0 i (by simp [AV.refs])
          exact go _ (own h0 hne) (fun r hr' => by simp only [AV.refs, List.mem_singleton] at hr'; rw [hr']; exact cl hne) h
    obtain ⟨cs', g1, g2, g3⟩ := key cs 0 _ (fun i hi => by simpa using hrr i hi) (fun c hm r hr' => by
      obtain ⟨j, hj, rfl⟩ := List.getElem_of_mem hm
      exact hcl r (by simpa [AV.refs] using AV.refs_mem cs j hj r hr')) h
    refine ⟨_, g1, .tup cs' vs f (by omega) (fun i hi => hf i (by omega)) (fun i hi => by have := (g3 i hi).1; rw [Nat.zero_add] at this; exact this), fun r hr' => ?_⟩
    obtain ⟨c, h1, h2⟩ := AV.refs_mem' cs' r (by simpa [AV.refs] using hr')
    obtain ⟨j, hj, rfl⟩ := List.getElem_of_mem h1
    exact (g3 j hj).2 r h2

def renF (ρ : List Nat) (self : Nat) : AV → Option AV
  | .d x => some (.d x)
  | .ref i off => some (.ref (ρ.getD i self) off)
  | .own i n => some (.own (ρ.getD i self) n)
  | .mp i => some (.mp (ρ.getD i self))
  | .tup vs => (renT vs).map .tup
  | _ => none
where
  renT : List AV → Option (List AV)
    | [] => some []
    | .d x :: l => (renT l).map (.d x :: ·)
    | .ref i off :: l => (renT l).map (.ref (ρ.getD i self) off :: ·)
    | .own i n :: l => (renT l).map (.own (ρ.getD i self) n :: ·)
    | _ :: _ => none

theorem renK_iff (ρ : List Nat) (self : Nat) (a : AV) (K : AV → Prop) : renK ρ self a K ↔ ∃ a', renF ρ self a = some a' ∧ K a' := by
  have tup : ∀ (l : List AV) (K : List AV → Prop), renK.renTup ρ self l K ↔ ∃ l', renF.renT ρ self l = some l' ∧ K l' := by
    intro l
    induction l with
    | nil => intro K; simp [renK.renTup, renF.renT]
    | cons c l ih =>
      intro K
      cases c <;> simp only [renK.renTup, renF.renT, ih, Option.map_eq_some_iff]
      case d => exact ⟨fun ⟨l', h1, h2⟩ => ⟨_, ⟨l', h1, rfl⟩, h2⟩, fun ⟨_, ⟨l', h1, h3⟩, h2⟩ => ⟨l', h1, h3 ▸ h2⟩⟩
      case ref => exact ⟨fun ⟨l', h1, h2⟩ => ⟨_, ⟨l', h1, rfl⟩, h2⟩, fun ⟨_, ⟨l', h1, h3⟩, h2⟩ => ⟨l', h1, h3 ▸ h2⟩⟩
      case own => exact ⟨fun ⟨l', h1, h2⟩ => ⟨_, ⟨l', h1, rfl⟩, h2⟩, fun ⟨_, ⟨l', h1, h3⟩, h2⟩ => ⟨l', h1, h3 ▸ h2⟩⟩
      all_goals simp
  cases a <;> simp only [renK, renF, tup, Option.map_eq_some_iff]
  case tup => exact ⟨fun ⟨l', h1, h2⟩ => ⟨_, ⟨l', h1, rfl⟩, h2⟩, fun ⟨_, ⟨l', h1, h3⟩, h2⟩ => ⟨l', h1, h3 ▸ h2⟩⟩
  all_goals simp

theorem updW_other : ∀ (wr : W) (ob : Nat → Option OB) (r : Nat), (∀ x ∈ wr, x.1 ≠ r) → updW ob wr r = ob r
  | [], ob, r, _ => rfl
  | (r', o) :: wr, ob, r, h => by
    simp only [updW]
    rw [updW_other wr _ r fun x hx => h x (by simp [hx]), upd_other _ _ _ _ (Ne.symm (h (r', o) (by simp)))]

theorem updW_zip : ∀ (ρ : List Nat) (objs : List OB) (ob : Nat → Option OB), ρ.Nodup → ρ.length = objs.length →
    (∀ i (hi : i < ρ.length) (hi' : i < objs.length), updW ob (ρ.zip objs) ρ[i] = some objs[i]) ∧ ∀ r, r ∉ ρ → updW ob (ρ.zip objs) r = ob r
  | [], [], ob, _, _ => ⟨fun i hi => by simp at hi, fun r _ => rfl⟩
  | r :: ρ, o :: objs, ob, hn, hl => by
    obtain ⟨hr, hn'⟩ := List.nodup_cons.1 hn
    obtain ⟨h1, h2⟩ := updW_zip ρ objs (upd ob r (some o)) hn' (by simpa using hl)
    simp only [List.zip_cons_cons, updW]
    refine ⟨fun i hi hi' => ?_, fun r' hr' => ?_⟩
    · cases i with
      | zero => simp only [List.getElem_cons_zero]; rw [h2 r hr, upd_same]
      | succ i => exact h1 i (by simpa using hi) (by simpa using hi')
    · simp only [List.mem_cons, not_or] at hr'
      rw [h2 r' hr'.2, upd_other _ _ _ _ hr'.1]
  | [], _ :: _, _, _, hl => by simp at hl
  | _ :: _, [], _, _, hl => by simp at hl

theorem zip_take {α β : Type} : ∀ (l : List α) (k : List β), l.zip k = (l.take k.length).zip k
  | [], k => by simp
  | x :: l, [] => by simp
  | x :: l, y :: k => by simp [← zip_take l k]

/-- the caller's places behind a call -/
def back (ρ : List Nat) (φ φ' : Nat → Option (Nat × Nat)) : Nat → Option (Nat × Nat) := fun r => if r ∈ ρ then φ' (ρ.idxOf r) else φ r

theorem back_get {ρ : List Nat} (hn : ρ.Nodup) {φ φ' : Nat → Option (Nat × Nat)} {i : Nat} (hi : i < ρ.length) : back ρ φ φ' ρ[i] = φ' i := by
  unfold back
  rw [if_pos (List.getElem_mem hi), hn.idxOf_getElem i hi]

theorem back_not {ρ : List Nat} {φ φ' : Nat → Option (Nat × Nat)} {r : Nat} (h : r ∉ ρ) : back ρ φ φ' r = φ r := by
  unfold back; rw [if_neg h]

theorem Mem.merge {w' : World} {S' : Sc} {φ' : Nat → Option (Nat × Nat)} {objs objs' : List OB} {ρ ρ' : List Nat} (m : Mem E w S φ ob) (hρ : ∀ r ∈ ρ, ob r ≠ none) (hob : ofL objs = sel ρ ob) (hlen : objs.length = ρ.length)
    (m' : Mem ⟨w, S, PBof (sel ρ φ) objs.length⟩ w' S' φ' (ofL objs')) (k' : Kept w S (sel ρ φ) (ofL objs) w' S' φ' (ofL objs')) (hcl : ∀ o ∈ objs', closedO o = true) (hn : ρ'.Nodup) (hl : ρ'.length = objs'.length) (hx : Ext ρ ρ')
    (hnew : ∀ r ∈ ρ', r ∈ ρ ∨ ob r = none) :
    Mem E w' S' (back ρ' φ φ') (updW ob (ρ'.zip objs')) ∧ Kept w S φ ob w' S' (back ρ' φ φ') (updW ob (ρ'.zip objs')) := by
  obtain ⟨z1, z2⟩ := updW_zip ρ' objs' ob hn hl
  have hsub : ∀ r, r ∈ ρ → r ∈ ρ' := fun r hr => by obtain ⟨l, rfl⟩ := hx; exact List.mem_append_left _ hr
  have hge : ρ.length ≤ ρ'.length := by obtain ⟨l, rfl⟩ := hx; simp
  have old : ∀ {r : Nat}, ob r ≠ none → r ∉ ρ' ∨ ∃ i, ∃ hi : i < ρ.length, ρ[i] = r ∧ ∃ hi' : i < ρ'.length, ρ'[i] = r := by
    intro r hr
    by_cases h : r ∈ ρ'
    · rcases hnew r h with h' | h'
      · obtain ⟨i, hi, rfl⟩ := List.getElem_of_mem h'
        refine .inr ⟨i, hi, rfl, by omega, ?_⟩
        have := hx.get hi
        rw [List.getElem?_eq_getElem hi, List.getElem?_eq_getElem (by omega)] at this
        exact Option.some.inj this
      · exact absurd h' hr
    · exact .inl h
  have notPB : ∀ {r b c}, ob r ≠ none → r ∉ ρ → φ r = some (b, c) → ¬ PBof (sel ρ φ) objs.length b := by
    rintro r b c h1 h2 h3 ⟨i, c', hi, hs⟩
    rw [hlen] at hi
    simp only [sel, List.getElem?_eq_getElem hi, Option.bind_some] at hs
    exact h2 (m.inj r ρ[i] b c c' h1 (hρ _ (List.getElem_mem hi)) h3 hs ▸ List.getElem_mem hi)
  have oblk : ∀ {r b c}, ob r ≠ none → r ∉ ρ → φ r = some (b, c) → w'.heap[b]? = w.heap[b]? ∧ ∀ o, S' b o → S b o := by
    intro r b c h1 h2 h3
    have hb := (m.ow r b c h1 h3).1
    have hp := notPB h1 h2 h3
    exact ⟨m'.fr b hb hp, fun o ho => m'.nS b o ho hb hp⟩
  have hk : Kept w S φ ob w' S' (back ρ' φ φ') (updW ob (ρ'.zip objs')) := by
    refine ⟨k'.k, fun r hr => ?_, fun r hr => ?_⟩
    · rcases old hr with h | ⟨i, hi, e1, hi', e2⟩
      · refine .inl ?_
        rw [back_not h, z2 r h]
        exact ⟨rfl, rfl, id⟩
      · have hr2 := k'.r i (by rw [hob]; simp [sel, hi, e1, hr])
        have q1 : sel ρ φ i = φ r := by simp [sel, hi, e1]
        have q2 : ofL objs i = ob r := by rw [hob]; simp [sel, hi, e1]
        have q3 : back ρ' φ φ' r = φ' i := by rw [← e2]; exact back_get hn hi'
        have q4 : updW ob (ρ'.zip objs') r = ofL objs' i := by rw [← e2, z1 i hi' (by omega)]; simp [ofL, show i < objs'.length by omega]
        unfold RefOK at hr2 ⊢
        rw [q1, q2] at hr2
        rw [q3, q4]
        exact hr2
    · rcases old hr with h | ⟨i, hi, e1, hi', e2⟩
      · rw [z2 r h]; exact hr
      · rw [← e2, z1 i hi' (by omega)]; simp
  refine ⟨⟨?_, ?_, ?_, ?_, ?_, m'.bS |> fun h => h, ?_, ?_, ?_, ?_, ?_⟩, hk⟩
  · intro r o h
    by_cases hr : r ∈ ρ'
    · obtain ⟨i, hi, rfl⟩ := List.getElem_of_mem hr
      rw [z1 i hi (by omega)] at h
      obtain rfl := Option.some.inj h
      exact (m'.obj i objs'[i] (by simp [ofL, show i < objs'.length by omega])).rename (hcl _ (List.getElem_mem _)) (back_get hn hi)
    · rw [z2 r hr] at h
      exact (m.obj r o h).keep hk (back_not hr) (fun b c hb => oblk (by simp [h]) (fun hh => hr (hsub r hh)) hb) (m.men r o h)
  · intro r1 r2 b c c' h1 h2 g1 g2
    have inout : ∀ {r1 r2 b c c'}, r1 ∈ ρ' → r2 ∉ ρ' → updW ob (ρ'.zip objs') r2 ≠ none → back ρ' φ φ' r1 = some (b, c) → back ρ' φ φ' r2 = some (b, c') → False := by
      intro r1 r2 b c c' e1 e2 h2 g1 g2
      obtain ⟨i, hi, rfl⟩ := List.getElem_of_mem e1
      rw [back_get hn hi] at g1
      rw [back_not e2] at g2
      rw [z2 _ e2] at h2
      have q1 := m'.ow i b c (by simp [ofL, show i < objs'.length by omega]) g1
      have q2 := (m.ow r2 b c' h2 g2).1
      rcases q1.2 with q | q
      · simp only at q; omega
      · exact notPB h2 (fun hh => e2 (hsub r2 hh)) g2 q
    by_cases e1 : r1 ∈ ρ'
    · by_cases e2 : r2 ∈ ρ'
      · obtain ⟨i, hi, rfl⟩ := List.getElem_of_mem e1
        obtain ⟨j, hj, rfl⟩ := List.getElem_of_mem e2
        rw [back_get hn hi] at g1
        rw [back_get hn hj] at g2
        have : i = j := m'.inj i j b c c' (by simp [ofL, show i < objs'.length by omega]) (by simp [ofL, show j < objs'.length by omega]) g1 g2
        subst this; rfl
      · exact (inout e1 e2 h2 g1 g2).elim
    · by_cases e2 : r2 ∈ ρ'
      · exact (inout e2 e1 h1 g2 g1).elim
      · rw [back_not e1] at g1; rw [back_not e2] at g2
        rw [z2 _ e1] at h1; rw [z2 _ e2] at h2
        exact m.inj r1 r2 b c c' h1 h2 g1 g2
  · intro r o h r' hm
    by_cases hr : r ∈ ρ'
    · obtain ⟨i, hi, rfl⟩ := List.getElem_of_mem hr
      rw [z1 i hi (by omega)] at h
      obtain rfl := Option.some.inj h
      rw [closedO_refs (hcl _ (List.getElem_mem _))] at hm
      simp at hm
    · rw [z2 r hr] at h
      exact hk.c _ (m.men r o h r' hm)
  · exact fun b o h => m'.sS b o (m.sS b o h)
  · exact fun b o h => (m'.kS b o (m.sS b o h)).trans (m.kS b o h)
  · intro b o h hb hp
    by_cases hq : PBof (sel ρ φ) objs.length b
    · obtain ⟨i, c, hi, hs⟩ := hq
      rw [hlen] at hi
      simp only [sel, List.getElem?_eq_getElem hi, Option.bind_some] at hs
      rcases (m.ow ρ[i] b c (hρ _ (List.getElem_mem hi)) hs).2 with g | g
      · omega
      · exact absurd g hp
    · exact m.nS b o (m'.nS b o h (Nat.lt_of_lt_of_le hb m.sz) hq) hb hp
  · intro b hb hp
    refine (m'.fr b (Nat.lt_of_lt_of_le hb m.sz) fun hq => ?_).trans (m.fr b hb hp)
    obtain ⟨i, c, hi, hs⟩ := hq
    rw [hlen] at hi
    simp only [sel, List.getElem?_eq_getElem hi, Option.bind_some] at hs
    rcases (m.ow ρ[i] b c (hρ _ (List.getElem_mem hi)) hs).2 with g | g
    · omega
    · exact hp g
  · exact Nat.le_trans m.sz m'.sz
  · intro r b c h g
    by_cases hr : r ∈ ρ'
    · obtain ⟨i, hi, rfl⟩ := List.getElem_of_mem hr
      rw [back_get hn hi] at g
      have q := m'.ow i b c (by simp [ofL, show i < objs'.length by omega]) g
      refine ⟨q.1, ?_⟩
      rcases q.2 with q | ⟨j, c', hj, hs⟩
      · have := m.sz; simp only at q; exact .inl (by omega)
      · rw [hlen] at hj
        simp only [sel, List.getElem?_eq_getElem hj, Option.bind_some] at hs
        exact (m.ow ρ[j] b c' (hρ _ (List.getElem_mem hj)) hs).2
    · rw [z2 r hr] at h
      rw [back_not hr] at g
      have q := m.ow r b c h g
      have := m'.sz
      simp only at this
      exact ⟨by omega, q.2⟩
  · obtain ⟨a1, a2, a3⟩ := m'.os
    obtain ⟨b1, b2, b3⟩ := m.os
    exact ⟨a1.trans b1, a2.trans b2, a3.trans b3⟩

theorem callK_sound {obl : List (Option OB)} {cx : Cx} (hC : ∀ f args objs res objs', cx.C f args objs res objs' → CallsOK P f args objs res objs') (m : Mem E w S φ (fun r => obl.getD r none)) {f : FuncId} {self : Nat} {args : List AV} {vals : Array Value} {K : AV → W → Prop}
    (hv : All2 (fun a v => RepA S w φ (fun r => obl.getD r none) a v ∧ Closed (fun r => obl.getD r none) a) args vals.toList) (h : callK cx f self args obl K) :
    ∃ out wr, K out wr ∧ (∀ r o, (r, o) ∈ wr → r < obl.length) ∧ (∃ fn, P.funcs[f]? = some fn ∧ fn.name ≠ "runtime.NumGoroutine" ∧ fn.body.isSome = true) ∧
      Calls P f vals w fun e w' => ∃ v, e = .returned v ∧ Post E w S φ (fun r => obl.getD r none) out wr v w' := by
  rw [callK_eq] at h
  unfold callK0 at h
  obtain ⟨as', ρ, wr1, S1, hK, m1, k1, hx1, hw1, _, hn, hρ, seen⟩ := argsK_sound m (FrzExt.refl _) List.nodup_nil hv h
  rw [onlyIf_iff] at hK
  obtain ⟨hap, hK⟩ := hK
  obtain ⟨objs, hK, hlen, hobj⟩ := objsK_sound hK
  obtain ⟨res, objs', hCf, hself, hK⟩ := hK
  rw [renK_iff] at hK
  obtain ⟨res', hren, hK⟩ := hK
  obtain ⟨wr2, hK, hcl, hl2, hwr2⟩ := backK_sound hK
  obtain ⟨hfn, hcall⟩ := hC _ _ _ _ _ hCf
  -- what is handed over is as it was
  have hap' : ∀ x ∈ wr1, ∀ r ∈ ρ, x.1 ≠ r := by
    intro x hx r hr e
    simp only [callK0.apartW, List.all_eq_true] at hap
    have := hap x hx r hr
    rw [show Nat.beq r x.1 = true by rw [e]; exact Nat.beq_refl r] at this
    simp at this
  have hρ' : ∀ r ∈ ρ, obl.getD r none ≠ none := fun r hr => (hρ r hr).resolve_left (by simp)
  have hob1 : ∀ r ∈ ρ, updW (fun r => obl.getD r none) wr1 r = obl.getD r none := fun r hr => updW_other _ _ _ fun x hx => hap' x hx r hr
  have hob : ofL objs = sel ρ (updW (fun r => obl.getD r none) wr1) := by
    funext i
    by_cases hi : i < ρ.length
    · have hi' : i < objs.length := by omega
      simp only [ofL, sel, List.getElem?_eq_getElem hi, List.getElem?_eq_getElem hi', Option.bind_some]
      rw [hob1 _ (List.getElem_mem hi), (hobj i hi' hi).1]
    · simp [ofL, sel, show ρ.length ≤ i by omega, show objs.length ≤ i by omega]
  have hρ1 : ∀ r ∈ ρ, updW (fun r => obl.getD r none) wr1 r ≠ none := fun r hr => by rw [hob1 r hr]; exact hρ' r hr
  -- the callee's memory
  have m0 : Mem ⟨w, S1, PBof (sel ρ φ) objs.length⟩ w S1 (sel ρ φ) (ofL objs) := by
    have get : ∀ {i : Nat}, ofL objs i ≠ none → ∃ hi : i < ρ.length, updW (fun r => obl.getD r none) wr1 ρ[i] ≠ none ∧ sel ρ φ i = φ ρ[i] := by
      intro i h
      have hi : i < ρ.length := by
        refine Nat.lt_of_not_le fun hge => h ?_
        simp [ofL, show objs.length ≤ i by omega]
      exact ⟨hi, hρ1 _ (List.getElem_mem hi), by simp [sel, hi]⟩
    refine ⟨fun i o h => ?_, fun i j b c c' h1 h2 g1 g2 => ?_, fun i o h r' hm => ?_, fun _ _ h => h, fun _ _ _ => rfl, m1.bS, fun _ _ h _ _ => h, fun _ _ _ => rfl, Nat.le_refl _, fun i b c h g => ?_, rfl, rfl, rfl⟩
    · obtain ⟨hi, h1, h2⟩ := get (i := i) (by simp [h])
      have hi' : i < objs.length := by omega
      have e1 : objs[i] = o := by simpa [ofL, hi'] using h
      have e2 : updW (fun r => obl.getD r none) wr1 ρ[i] = some objs[i] := by rw [hob1 _ (List.getElem_mem hi), (hobj i hi' hi).1]
      rw [← e1]
      exact (m1.obj _ _ e2).rename (hobj i hi' hi).2 h2
    · obtain ⟨hi, p1, p2⟩ := get h1
      obtain ⟨hj, q1, q2⟩ := get h2
      rw [p2] at g1
      rw [q2] at g2
      have := m1.inj _ _ b c c' p1 q1 g1 g2
      exact (List.getElem_inj hn).1 this
    · obtain ⟨hi, _, _⟩ := get (i := i) (by simp [h])
      have hi' : i < objs.length := by omega
      have e1 : objs[i] = o := by simpa [ofL, hi'] using h
      rw [← e1, closedO_refs (hobj i hi' hi).2] at hm
      simp at hm
    · obtain ⟨hi, p1, p2⟩ := get h
      exact ⟨(m1.ow _ b c p1 (p2 ▸ g)).1, .inr ⟨i, c, by omega, g⟩⟩
  have hsz : vals.size = as'.length := by
    have : ∀ {l : List AV} {k : List Value} {R : AV → Value → Prop}, All2 R l k → l.length = k.length := by
      intro l k R h
      induction h with
      | nil => rfl
      | cons _ _ ih => simp [ih]
    have := this seen
    simpa using this.symm
  have hargs : ∀ i (hi : i < as'.length), RepA S1 w (sel ρ φ) (ofL objs) as'[i] (vals.getD i undef) ∧ Closed (ofL objs) as'[i] := by
    have get : ∀ {l : List AV} {k : List Value} {R : AV → Value → Prop}, All2 R l k → ∀ i (hi : i < l.length), ∃ v, k[i]? = some v ∧ R l[i] v := by
      intro l k R h
      induction h with
      | nil => intro i hi; simp at hi
      | cons h _ ih =>
        intro i hi
        cases i with
        | zero => exact ⟨_, rfl, h⟩
        | succ i => exact ih i (by simpa using hi)
    intro i hi
    obtain ⟨v, h1, h2, h3⟩ := get seen i hi
    have : vals.getD i undef = v := by
      have : vals[i]? = some v := by simpa using h1
      simp [this]
    rw [this, hob]
    refine ⟨h2, fun r hr => ?_⟩
    have hlt := h3 r hr
    simp only [sel, List.getElem?_eq_getElem hlt, Option.bind_some]
    exact hρ1 _ (List.getElem_mem hlt)
  have hnone : ∀ r, objs.length ≤ r → sel ρ φ r = none := fun r hr => by simp [sel, show ρ.length ≤ r by omega]
  -- the references that come back
  have hnself : objs'.length = ρ.length + 1 → obl[self]? = some none := by
    intro he
    rcases hself with h | h
    · omega
    · exact h
  let ρ' := (ρ ++ [self]).take objs'.length
  have hρlen : ρ'.length = objs'.length := by simp only [ρ', List.length_take, List.length_append, List.length_singleton]; omega
  have hx : Ext ρ ρ' := by
    rcases hl2 with h | h
    · exact ⟨[], by simp [ρ', h]⟩
    · exact ⟨[self], by simp only [ρ']; rw [List.take_of_length_le (by simp; omega)]⟩
  have hnew : ∀ r ∈ ρ', r ∈ ρ ∨ updW (fun r => obl.getD r none) wr1 r = none := by
    intro r hr
    rcases hl2 with hA | hB
    · simp only [ρ', hA, List.take_left'] at hr
      exact .inl (by simpa using hr)
    · have : r ∈ ρ ++ [self] := List.mem_of_mem_take hr
      rcases List.mem_append.1 this with h' | h'
      · exact .inl h'
      · simp only [List.mem_singleton] at h'
        subst h'
        exact .inr (hx1.none (noO_none (hnself hB)).1)
  have hn' : ρ'.Nodup := by
    rcases hl2 with h | h
    · simp only [ρ', h]; simpa using hn
    · have hs := (noO_none (hnself h)).1
      refine List.Nodup.sublist (List.take_sublist _ _) ?_
      rw [List.nodup_append]
      exact ⟨hn, by simp, fun a ha b hb e => by simp at hb; subst hb; subst e; exact hρ' a ha hs⟩
  have hzip : (ρ ++ [self]).zip objs' = ρ'.zip objs' := by
    simp only [ρ']
    exact zip_take _ _
  refine ⟨res', wr1 ++ wr2, hK, fun r o hm => ?_, hfn, (hcall w S1 (sel ρ φ) vals hsz hargs hnone m0).mono ?_⟩
  · rcases List.mem_append.1 hm with hm | hm
    · obtain ⟨e', sz', es', f', e1, _⟩ := hw1 r o hm
      exact getD_obf obl r _ e1
    · rw [hwr2, hzip] at hm
      have hr := (List.of_mem_zip hm).1
      obtain ⟨l, hl⟩ := hx
      rcases hl2 with hA | hB
      · have : r ∈ ρ := by
          simp only [ρ', hA] at hr
          simpa using hr
        cases hg : obl.getD r none with
        | none => exact absurd hg (hρ' r this)
        | some o => exact getD_obf obl r o hg
      · have : r ∈ ρ ++ [self] := List.mem_of_mem_take hr
        rcases List.mem_append.1 this with h' | h'
        · cases hg : obl.getD r none with
          | none => exact absurd hg (hρ' r h')
          | some o => exact getD_obf obl r o hg
        · simp only [List.mem_singleton] at h'
          subst h'
          exact (noO_none (hnself hB)).2
  · rintro e w' ⟨v, he, S', φ', mm, kk, rr, cc⟩
    refine ⟨v, he, ?_⟩
    obtain ⟨m2, k2⟩ := m1.merge hρ1 hob hlen mm kk hcl hn' hρlen hx hnew
    obtain ⟨z1, z2⟩ := updW_zip ρ' objs' (updW (fun r => obl.getD r none) wr1) hn' hρlen
    have hres := renK_sound (ρ := ρ) (self := self) (φ' := back ρ' φ φ') (ob' := updW (updW (fun r => obl.getD r none) wr1) (ρ'.zip objs')) (K := fun a => a = res') rr cc (fun i hi => by
      have hi' : i < objs'.length := by
        refine Nat.lt_of_not_le fun hge => hi ?_
        simp [ofL, hge]
      have hi2 : i < ρ'.length := by omega
      have e1 : ρ.getD i self = ρ'[i] := by
        have h1 : ρ'[i] = (ρ ++ [self])[i]'(by simp; omega) := by simp only [ρ', List.getElem_take]
        rw [h1, List.getElem_append]
        split
        · rename_i hlt; simp [hlt]
        · rename_i hlt; simp [show ρ.length ≤ i by omega]
      rw [e1]
      exact ⟨back_get hn' hi2, by rw [z1 i hi2 hi']; simp [ofL, hi']⟩) ((renK_iff _ _ _ _).2 ⟨res', hren, rfl⟩)
    obtain ⟨_, rfl, r1, r2⟩ := hres
    refine ⟨S', back ρ' φ φ', ?_, ?_, ?_, ?_⟩
    · rw [updW_append, hwr2, hzip]; exact m2
    · rw [updW_append, hwr2, hzip]; exact k1.trans k2
    · rw [updW_append, hwr2, hzip]; exact r1
    · rw [updW_append, hwr2, hzip]; exact r2
end
end Go.AX
