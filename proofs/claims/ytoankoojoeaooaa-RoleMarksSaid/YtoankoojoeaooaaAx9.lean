/-
  AX, part 9: regions that keep the text's order, code, loops, functions.
-/
import Derived.Test.YtoankoojoeaooaaAx8
import Derived.Deep.LoopGhost
namespace Go.AX

def obf (obl : List (Option OB)) : Nat → Option OB := fun r => obl.getD r none

structure R (E : Env) (st : ASt) (a : Act) (w : World) (S : Sc) (φ : Nat → Option (Nat × Nat)) : Prop where
  sz : a.tmps.size = st.tm.length
  tm : ∀ i (hi : i < st.tm.length), RepA S w φ (obf st.ob) st.tm[i] (a.tmps.getD i undef) ∧ Closed (obf st.ob) st.tm[i]
  df : a.defers = []
  mem : Mem E w S φ (obf st.ob)

/-- the objects that came in, as they were -/
structure Trk where
  np : Nat
  φ0 : Nat → Option (Nat × Nat)
  ob0 : Nat → Option OB

def Trk.ok (tr : Trk) (φ : Nat → Option (Nat × Nat)) (ob : Nat → Option OB) : Prop := ∀ r, r < tr.np → ob r ≠ none ∧ RefOK tr.φ0 tr.ob0 φ ob r

def RR (E : Env) (tr : Trk) (st : ASt) (a : Act) (w : World) : Prop := ∃ S φ, R E st a w S φ ∧ tr.ok φ (obf st.ob)

theorem RefOK.trans {φ φ' φ'' : Nat → Option (Nat × Nat)} {ob ob' ob'' : Nat → Option OB} {r : Nat} (h : RefOK φ ob φ' ob' r) (k : RefOK φ' ob' φ'' ob'' r) : RefOK φ ob φ'' ob'' r := by
  rcases h with ⟨a1, a2, a3⟩ | ⟨e, sz, es, frz, es', frz', a1, a2, a3, a4⟩
  · rcases k with ⟨b1, b2, b3⟩ | ⟨e, sz, es, frz, es', frz', b1, b2, b3, b4⟩
    · exact .inl ⟨b1.trans a1, b2.trans a2, fun x => a3 (b3 x)⟩
    · obtain ⟨es0, f0, c1, c2⟩ := hdr_row b1 a2
      exact .inr ⟨e, sz, es0, f0, es', frz', c1, b2, by omega, fun hh => (b4 (by omega)).trans a1⟩
  · rcases k with ⟨b1, b2, b3⟩ | ⟨e2, sz2, es2, frz2, es3, frz3, b1, b2, b3, b4⟩
    · obtain ⟨es0, f0, c1, c2⟩ : ∃ es0 f0, ob'' r = some (.row e sz es0 f0) ∧ es0.length = es'.length := by
        rw [a2] at b2
        cases h'' : ob'' r with
        | none => rw [h''] at b2; simp [hdr] at b2
        | some o =>
          rw [h''] at b2
          cases o with
          | box cs => simp [hdr] at b2
          | map => simp [hdr] at b2
          | row e' sz' es'' f => simp [hdr] at b2; exact ⟨es'', f, by simp [b2], b2.2.2⟩
      exact .inr ⟨e, sz, es, frz, es0, f0, a1, c1, by omega, fun hh => b1.trans (a4 (by omega))⟩
    · rw [a2] at b1
      simp only [Option.some.injEq, OB.row.injEq] at b1
      obtain ⟨rfl, rfl, rfl, rfl⟩ := b1
      exact .inr ⟨e, sz, es, frz, es3, frz3, a1, b2, by omega, fun hh => (b4 (by omega)).trans (a4 (by omega))⟩

theorem Trk.ok.kept {tr : Trk} {w w' : World} {S S' : Sc} {φ φ' : Nat → Option (Nat × Nat)} {ob ob' : Nat → Option OB} (h : tr.ok φ ob) (k : Kept w S φ ob w' S' φ' ob') : tr.ok φ' ob' :=
  fun r hr => ⟨k.c r (h r hr).1, (h r hr).2.trans (k.r r (h r hr).1)⟩

section
variable {P : Program} {E : Env} {tr : Trk} {w : World} {S : Sc} {φ : Nat → Option (Nat × Nat)}

theorem R.av {st : ASt} {a : Act} (h : R E st a w S φ) (x : Operand) : RepA S w φ (obf st.ob) (evO st.tm x) (a.eval x) ∧ Closed (obf st.ob) (evO st.tm x) := by
  cases x with
  | tmp t =>
    simp only [evO, Act.eval]
    by_cases ht : t < st.tm.length
    · have := h.tm t ht
      have e : st.tm.getD t .dead = st.tm[t] := by simp [ht]
      rw [e]; exact this
    · have e : st.tm.getD t .dead = .dead := by simp [Nat.le_of_not_lt ht]
      rw [e]; exact ⟨.dead _, closed_dead _⟩
  | const v =>
    simp only [evO, Act.eval]
    split
    · rename_i hv; exact ⟨.d _ _ (.val v hv), closed_d _ _⟩
    · exact ⟨.dead _, closed_dead _⟩
  | global g => exact ⟨.dead _, closed_dead _⟩
  | func f => exact ⟨.fn f [] #[] (fun _ => undef) rfl (fun i hi => by simp at hi) (fun i hi => by simp at hi), fun r hr => by simp [evO, AV.refs, AV.refs.refsL] at hr⟩

def wrL : List (Option OB) → W → List (Option OB)
  | ob, [] => ob
  | ob, (r, o) :: w => wrL (ob.set r (some o)) w

theorem wrK_iff (ob : List (Option OB)) (wr : W) (K : List (Option OB) → Prop) : wrK ob wr K ↔ K (wrL ob wr) := by
  induction wr generalizing ob with
  | nil => rfl
  | cons x wr ih => obtain ⟨r, o⟩ := x; simp [wrK, wrL, lsetK_iff, ih]

theorem wrL_length (ob : List (Option OB)) (wr : W) : (wrL ob wr).length = ob.length := by
  induction wr generalizing ob with
  | nil => rfl
  | cons x wr ih => obtain ⟨r, o⟩ := x; simp [wrL, ih]

theorem obf_wrL (ob : List (Option OB)) (wr : W) (h : ∀ r o, (r, o) ∈ wr → r < ob.length) : obf (wrL ob wr) = updW (obf ob) wr := by
  induction wr generalizing ob with
  | nil => rfl
  | cons x wr ih =>
    obtain ⟨r, o⟩ := x
    simp only [wrL, updW]
    rw [ih (ob.set r (some o)) fun r' o' hm => by simpa using h r' o' (by simp [hm])]
    congr 1
    exact obf_set ob r o (h r o (by simp))

def putL (tm : List AV) (dst : Option Nat) (v : AV) : List AV := match dst with
  | some d => tm.set d v
  | none => tm

theorem putK_iff (tm : List AV) (dst : Option Nat) (v : AV) (K : List AV → Prop) : putK tm dst v K ↔ K (putL tm dst v) := by
  cases dst <;> simp [putK, putL, lsetK_iff]

theorem putL_length (tm : List AV) (dst : Option Nat) (v : AV) : (putL tm dst v).length = tm.length := by
  cases dst <;> simp [putL]

theorem putL_get (tm : List AV) (dst : Option Nat) (v : AV) (i : Nat) (hi : i < tm.length) : (putL tm dst v)[i]? = some (if dst = some i then v else tm[i]) := by
  cases dst with
  | none => simp [putL, hi]
  | some d =>
    simp only [putL, List.getElem?_set, Option.some.injEq]
    by_cases h : d = i
    · simp [h, hi]
    · simp [h, hi]

theorem put_get (a : Act) (dst : Option Nat) (v : Value) (i : Nat) (hi : i < a.tmps.size) : (a.put dst v).tmps.getD i undef = if dst = some i then v else a.tmps.getD i undef := by
  cases dst with
  | none => simp [Act.put]
  | some d =>
    simp only [Act.put, Option.some.injEq]
    by_cases h : d = i
    · subst h; simp [hi]
    · simp [h, Array.getElem?_setIfInBounds_ne]

/-- a value is put into its slot -/
theorem R.put {st : ASt} {a : Act} (h : R E st a w S φ) {w' : World} {S' : Sc} {φ' : Nat → Option (Nat × Nat)} {ob' : List (Option OB)} {dst : Option Nat} {out : AV} {v : Value} (m : Mem E w' S' φ' (obf ob')) (k : Kept w S φ (obf st.ob) w' S' φ' (obf ob'))
    (hv : RepA S' w' φ' (obf ob') out v) (hc : Closed (obf ob') out) : R E ⟨putL st.tm dst out, ob'⟩ (a.put dst v) w' S' φ' := by
  refine ⟨?_, fun i hi => ?_, ?_, m⟩
  · rw [putL_length, ← h.sz]; cases dst <;> simp [Act.put]
  · simp only [putL_length] at hi
    have e1 := putL_get st.tm dst out i hi
    have e2 := put_get a dst v i (by rw [h.sz]; exact hi)
    have hi' : i < (putL st.tm dst out).length := by rw [putL_length]; exact hi
    rw [List.getElem?_eq_getElem hi'] at e1
    have e1 := Option.some.inj e1
    simp only [e1, e2]
    split
    · exact ⟨hv, hc⟩
    · exact ⟨k.rep (h.tm i hi).2 (h.tm i hi).1, k.closed (h.tm i hi).2⟩
  · rw [← h.df]; cases dst <;> rfl

theorem upon_of_run {o : Oper} {a : Act} {Q : Value → World → Prop} {next : Act → World → Prop} {Qx : Exit → Act → World → Prop} (h : RunOK P o a.eval w Q) (hn : ∀ v w', Q v w' → next (a.put o.dst v) w') : o.wp P a w next Qx := by
  unfold Oper.wp
  unfold RunOK at h
  generalize (execOp a.eval o).run P w = r at *
  cases r with
  | ok x w' =>
    cases x <;> simp only [Oper.upon] at h ⊢
    case value v => exact hn _ _ h
    case skip => exact hn _ _ h
    case enter f args =>
      refine h.mono ?_
      rintro e w'' ⟨v, rfl, hq⟩
      exact hn _ _ hq
    all_goals exact h.elim
  | halt x w' => exact h.elim

/-- the truth that was looked at -/
theorem R.known {st : ASt} {a : Act} (h : R E st a w S φ) {t : Nat} {b c : Bool} (hb : st.tm.getD t .dead = .b b) (hc : b = c) : R E ⟨st.tm.set t (.b c), st.ob⟩ a w S φ := by
  subst hc
  have ht : t < st.tm.length := by
    refine Nat.lt_of_not_le fun hge => ?_
    simp [hge] at hb
  have e : st.tm.set t (.b b) = st.tm := by
    have : st.tm[t] = .b b := by simpa [ht] using hb
    rw [← this]; exact List.set_getElem_self ht
  rw [e]; exact h

/-- one operation, wanted or not -/
theorem stepG_sound {ops : Array Oper} {o : Oper} {F : (Operand → AV) → List (Option OB) → (AV → W → Prop) → Prop}
    (hF : ∀ {w : World} {S : Sc} {φ : Nat → Option (Nat × Nat)} {obl : List (Option OB)} {av : Operand → AV} {ρ : Operand → Value} {K : AV → W → Prop} (_ : Mem E w S φ (fun r => obl.getD r none)) (_ : ∀ x, RepA S w φ (fun r => obl.getD r none) (av x) (ρ x) ∧ Closed (fun r => obl.getD r none) (av x)) (_ : F av obl K),
      ∃ out wr, K out wr ∧ (∀ r o, (r, o) ∈ wr → r < obl.length) ∧ RunOK P o ρ w (Post E w S φ (fun r => obl.getD r none) out wr))
    {st : ASt} {a : Act} {K : ASt → Prop} {Q : Exit → Act → World → Prop}
    (h : stepG ops o F st K) (hR : RR E tr st a w) {next : Act → World → Prop} (hn : ∀ st' a' w', K st' → RR E tr st' a' w' → next a' w') :
    if Region.wanted o (yielded ops a.tmps) then o.wp P a w next Q else next (a.put o.dst undef) w := by
  obtain ⟨S, φ, hR, htr⟩ := hR
  obtain ⟨tm, ob⟩ := st
  simp only [stepG] at h
  have yes : ∀ {tm : List AV}, R E ⟨tm, ob⟩ a w S φ → F (evO tm) ob (fun v w => putK tm o.dst v fun tm => wrK ob w fun ob => K ⟨tm, ob⟩) → o.wp P a w next Q := by
    intro tm hR h
    obtain ⟨out, wr, hK, hr, hrun⟩ := hF hR.mem (ρ := a.eval) (fun x => hR.av x) h
    rw [putK_iff, wrK_iff] at hK
    refine upon_of_run hrun fun v w' hp => hn _ _ _ hK ?_
    obtain ⟨S', φ', m', k', r', c'⟩ := hp
    have e := obf_wrL ob wr hr
    exact ⟨S', φ', hR.put (ob' := wrL ob wr) (by rw [e]; exact m') (by rw [e]; exact k') (by rw [e]; exact r') (by rw [e]; exact c'), by simp only [e]; exact htr.kept k'⟩
  have no : ∀ {tm : List AV}, R E ⟨tm, ob⟩ a w S φ → putK tm o.dst (.tup []) (fun tm => K ⟨tm, ob⟩) → next (a.put o.dst undef) w := by
    intro tm hR h
    rw [putK_iff] at h
    exact hn _ _ _ h ⟨S, φ, hR.put hR.mem (.refl _ _ _ _) (.tup [] #[] (fun _ => undef) rfl (fun i hi => by simp at hi) (fun i hi => by simp at hi)) (fun r hr => by simp [AV.refs, AV.refs.refsL] at hr), htr⟩
  unfold guardK at h
  cases hg : o.guard with
  | none =>
    simp only [hg] at h
    have hw : Region.wanted o (yielded ops a.tmps) = true := by unfold Region.wanted; rw [hg]
    simp only [hw, if_true]
    exact yes hR h
  | some g =>
    obtain ⟨j, want⟩ := g
    simp only [hg] at h
    cases hd : (ops[j]?).bind (·.dst) with
    | none => simp [hd] at h
    | some t =>
      simp only [hd] at h
      split at h
      · rename_i b hb
        have hb0 := hb
        have ht : t < tm.length := by
          refine Nat.lt_of_not_le fun hge => ?_
          simp [hge] at hb
        have hrep := (hR.tm t ht).1
        have e : tm.getD t .dead = tm[t] := by simp [ht]
        rw [e] at hb
        simp only at hrep
        rw [hb] at hrep
        have hval := hrep.bool
        have hts : t < a.tmps.size := by rw [hR.sz]; exact ht
        have hy : yielded ops a.tmps j = some b := by
          unfold yielded
          rw [hd]
          have : a.tmps[t]? = some (.bool b) := by
            simp [hts] at hval ⊢
            exact hval
          simp [this]
        have hw : Region.wanted o (yielded ops a.tmps) = (b == want) := by
          unfold Region.wanted; rw [hg]; simp only [hy]; cases b <;> cases want <;> rfl
        simp only [hw]
        cases b <;> cases want <;> simp only [selK, lsetK_iff] at h <;> simp
        · exact yes (hR.known hb0 rfl) h
        · exact no (hR.known hb0 rfl) h
        · exact no (hR.known hb0 rfl) h
        · exact yes (hR.known hb0 rfl) h
      · rename_i vs hb
        have ht : t < tm.length := by
          refine Nat.lt_of_not_le fun hge => ?_
          simp [hge] at hb
        have hrep := (hR.tm t ht).1
        have e : tm.getD t .dead = tm[t] := by simp [ht]
        rw [e] at hb
        simp only at hrep
        rw [hb] at hrep
        have hts : t < a.tmps.size := by rw [hR.sz]; exact ht
        have hy : yielded ops a.tmps j = none := by
          unfold yielded
          rw [hd]
          generalize hv : a.tmps.getD t undef = v at hrep
          cases hrep with | tup _ us _ _ _ _ =>
          have : a.tmps[t]? = some (.tuple us) := by
            simp [hts] at hv ⊢
            exact hv
          simp [this]
        have hw : Region.wanted o (yielded ops a.tmps) = false := by
          unfold Region.wanted; rw [hg]; simp only [hy]; rfl
        simp only [hw]
        simpa using no hR h
      · exact h.elim

theorem step_sound {cx : Cx} (hT : TabOk P cx.T) (hC : ∀ f args objs res objs', cx.C f args objs res objs' → CallsOK P f args objs res objs') {ops : Array Oper} {o : Oper} {st : ASt} {a : Act} {K : ASt → Prop} {Q : Exit → Act → World → Prop}
    (h : stepK cx ops o st K) (hR : RR E tr st a w) {next : Act → World → Prop} (hn : ∀ st' a' w', K st' → RR E tr st' a' w' → next a' w') :
    if Region.wanted o (yielded ops a.tmps) then o.wp P a w next Q else next (a.put o.dst undef) w :=
  stepG_sound (F := opK cx o) (fun m hav h => opK_sound hT hC m hav h) (show stepG ops o (opK cx o) st K from h) hR hn

theorem stepX_sound {cx : Cx} (hT : TabOk P cx.T) (hC : ∀ f args objs res objs', cx.C f args objs res objs' → CallsOK P f args objs res objs') {ops : Array Oper} {o : Oper} {st : ASt} {a : Act} {K : ASt → Prop} {Q : Exit → Act → World → Prop}
    (h : stepX cx ops o st K) (hR : RR E tr st a w) {next : Act → World → Prop} (hn : ∀ st' a' w', K st' → RR E tr st' a' w' → next a' w') :
    if Region.wanted o (yielded ops a.tmps) then o.wp P a w next Q else next (a.put o.dst undef) w :=
  stepG_sound (F := opX cx o) (fun m hav h => opX_sound hT hC m hav h) h hR hn

/-- the operations of a region in the text's order -/
theorem ops_sound {cx : Cx} (hT : TabOk P cx.T) (hC : ∀ f args objs res objs', cx.C f args objs res objs' → CallsOK P f args objs res objs') {ops : Array Oper} {Q : Exit → Act → World → Prop} : ∀ (l : List Nat) (os : List Oper) (_ : l.map (fun i => ops[i]?) = os.map some)
    {st : ASt} {a : Act} {w : World} {K : ASt → Prop} (_ : opsK cx ops os st K) (_ : RR E tr st a w) (_ : ∀ st' a' w', K st' → RR E tr st' a' w' → Q .normal a' w'), wpOps P ops Q l a w
  | [], [], _, st, a, w, K, h, hR, hn => hn st a w h hR
  | i :: l, o :: os, hm, st, a, w, K, h, hR, hn => by
    simp only [List.map_cons, List.cons.injEq] at hm
    obtain ⟨hi, hm⟩ := hm
    rw [wpOps_cons]
    unfold wpOp
    simp only [hi]
    simp only [opsK] at h
    have := stepX_sound (Q := Q) hT hC h hR (next := wpOps P ops Q l) fun st' a' w' hK hR' => ops_sound hT hC l os hm hK hR' hn
    split
    · rename_i hw; rw [if_pos hw] at this; exact .inl this
    · rename_i hw; rw [if_neg hw] at this; exact this
  | [], _ :: _, hm, _, _, _, _, _, _, _ => by simp at hm
  | _ :: _, [], hm, _, _, _, _, _, _, _ => by simp at hm

theorem range_ops (ops : Array Oper) : (List.range ops.size).map (fun i => ops[i]?) = ops.toList.map some := by
  apply List.ext_getElem
  · simp
  · intro i h1 h2
    simp at h1
    simp [h1]

/-! ### Weakening -/
theorem tmW_get (s s' : ASt) : ∀ {l l' : List AV}, tmW s s' l l' → l.length = l'.length ∧ ∀ i (hi : i < l.length) (hi' : i < l'.length), AvW s s' l[i] l'[i]
  | [], [], _ => ⟨rfl, fun i hi => by simp at hi⟩
  | a :: l, a' :: l', h => by
    have key : AvW s s' a a' ∧ tmW s s' l l' := by
      cases a' <;> simp only [tmW] at h <;> first | exact ⟨.dead a, h⟩ | exact h
    obtain ⟨h1, h2⟩ := tmW_get s s' key.2
    refine ⟨by simp [h1], fun i hi hi' => ?_⟩
    cases i with
    | zero => exact key.1
    | succ i => exact h2 i (by simpa using hi) (by simpa using hi')
  | [], _ :: _, h => by simp [tmW] at h
  | _ :: _, [], h => by simp [tmW] at h

theorem cellsW_get (s s' : ASt) : ∀ {l l' : List AV}, cellsW s s' l l' → l.length = l'.length ∧ ∀ i (hi : i < l.length) (hi' : i < l'.length), l'[i].one = true ∧ AvW s s' l[i] l'[i]
  | [], [], _ => ⟨rfl, fun i hi => by simp at hi⟩
  | a :: l, a' :: l', h => by
    simp only [cellsW] at h
    obtain ⟨h1, h2⟩ := cellsW_get s s' h.2
    refine ⟨by simp [h1], fun i hi hi' => ?_⟩
    cases i with
    | zero => exact h.1
    | succ i => exact h2 i (by simpa using hi) (by simpa using hi')
  | [], _ :: _, h => by simp [cellsW] at h
  | _ :: _, [], h => by simp [cellsW] at h

theorem obW_get (s s' : ASt) : ∀ {l l' : List (Option OB)}, obW s s' l l' → l.length = l'.length ∧ ∀ r o', l'.getD r none = some o' →
      match o' with
      | .box cs' => ∃ cs, l.getD r none = some (.box cs) ∧ cellsW s s' cs cs'
      | .row e sz es frz => (∃ f, l.getD r none = some (.row e sz es f) ∧ (f = true → frz = true)) ∨ (l.getD r none = none ∧ es = [] ∧ 0 < sz)
      | .map k e es => l.getD r none = some (.map k e es)
  | [], [], _ => ⟨rfl, fun r o' h => by simp at h⟩
  | o :: l, x :: l', h => by
    have tail : obW s s' l l' := by
      cases x with
      | none => simpa [obW] using h
      | some q => cases q <;> simp only [obW] at h <;> exact h.2
    obtain ⟨h1, h2⟩ := obW_get s s' tail
    refine ⟨by simp [h1], fun r o' hr => ?_⟩
    cases r with
    | zero =>
      simp at hr
      subst hr
      cases o' <;> simp only [obW] at h
      · simpa using h.1
      · simpa using h.1
      · simpa using h.1
    | succ r => simpa using h2 r o' (by simpa using hr)
  | [], _ :: _, h => by simp [obW] at h
  | _ :: _, [], h => by simp [obW] at h

theorem weak_sound {s s' : ASt} (h : Weak tr.np s s') {a : Act} (hR : RR E tr s a w) : RR E tr s' a w := by
  obtain ⟨S, φ, hR, htr⟩ := hR
  obtain ⟨hpar, htm, hob, hcl⟩ := h
  obtain ⟨t1, t2⟩ := tmW_get s s' htm
  obtain ⟨o1, o2⟩ := obW_get s s' hob
  have m := hR.mem
  -- what was there is as it was, or gone
  let S' : Sc := fun b o => S b o ∨ (∃ r e sz es f c, obf s.ob r = some (.row e sz es f) ∧ φ r = some (b, c) ∧ o < es.length * sz ∧ (obf s'.ob r = none ∨ obf s'.ob r = some (.row e sz es true))) ∨
    ∃ r cs c, obf s.ob r = some (.box cs) ∧ φ r = some (b, c) ∧ o < cs.length ∧ obf s'.ob r = none
  let φ' : Nat → Option (Nat × Nat) := fun r => match obf s.ob r with
    | none => none
    | some _ => φ r
  have hφ : ∀ {r}, obf s.ob r ≠ none → φ' r = φ r := by
    intro r hr
    simp only [φ']
    cases hq : obf s.ob r with
    | none => exact absurd hq hr
    | some q => rfl
  have hS : Keeps S w S' w := fun b o h => ⟨.inl h, rfl⟩
  have hS8 : ∀ {r b c}, obf s.ob r ≠ none → obf s'.ob r ≠ none → φ r = some (b, c) → ∀ o, S' b o → S b o ∨ ∃ e sz es f, obf s.ob r = some (.row e sz es f) ∧ o < es.length * sz ∧ (obf s'.ob r = none ∨ obf s'.ob r = some (.row e sz es true)) := by
    intro r b c h1 h1' h2 o ho
    rcases ho with ho | ⟨r', e, sz, es, f, c', g1, g2, g3, g4⟩ | ⟨r', cs, c', g1, g2, g3, g4⟩
    · exact .inl ho
    · have := m.inj r' r b c' c (by rw [g1]; simp) h1 g2 h2
      subst this
      exact .inr ⟨e, sz, es, f, g1, g3, g4⟩
    · have := m.inj r' r b c' c (by rw [g1]; simp) h1 g2 h2
      subst this
      exact absurd g4 h1'
  have hclA : ∀ r ∈ AV.refs.refsL s'.tm, obf s'.ob r ≠ none := by
    intro r hr
    simp only [closedS, Bool.and_eq_true, List.all_eq_true] at hcl
    have := hcl.1 r hr
    intro h
    simp only [obf] at h
    rw [h] at this
    simp at this
  have hclO : ∀ r o, obf s'.ob r = some o → ∀ r' ∈ o.refs, obf s'.ob r' ≠ none := by
    intro r o ho r' hr'
    simp only [closedS, Bool.and_eq_true, List.all_eq_true] at hcl
    have hmem : some o ∈ s'.ob := by
      have hlt := getD_obf s'.ob r o ho
      have : s'.ob[r] = some o := by
        have h2 : s'.ob.getD r none = s'.ob[r] := by simp [hlt]
        rw [← h2]; exact ho
      rw [← this]
      exact List.getElem_mem hlt
    have := hcl.2 (some o) hmem
    simp only [List.all_eq_true] at this
    have := this r' hr'
    intro h
    simp only [obf] at h
    rw [h] at this
    simp at this
  have href : ∀ r, obf s.ob r ≠ none → obf s'.ob r ≠ none → RefOK φ (obf s.ob) φ' (obf s'.ob) r := by
    intro r h1 h2
    refine .inl ⟨hφ h1, ?_, ?_⟩
    · cases hq : obf s'.ob r with
      | none => exact absurd hq h2
      | some q =>
        have := o2 r q hq
        cases q with
        | box cs' =>
          obtain ⟨cs, g1, _⟩ := this
          have g1' : obf s.ob r = some (.box cs) := g1
          rw [g1']; rfl
        | map k e es =>
          have g1' : obf s.ob r = some (.map k e es) := this
          rw [g1']
        | row e sz es frz =>
          rcases this with ⟨f, g1, _⟩ | ⟨g1, _⟩
          · have g1' : obf s.ob r = some (.row e sz es f) := g1
            rw [g1']; rfl
          · exact absurd g1 h1
    · rintro ⟨cs', hc⟩
      obtain ⟨cs, g1, _⟩ := o2 r _ hc
      exact ⟨cs, g1⟩
  have rep : ∀ {x x' : AV} {v : Value}, AvW s s' x x' → RepA S w φ (obf s.ob) x v → Closed (obf s.ob) x → (∀ r ∈ x'.refs, obf s'.ob r ≠ none) → RepA S' w φ' (obf s'.ob) x' v := by
    intro x x' v hw
    induction hw generalizing v with
    | lstB r cs ys sz h h' hsz hl hp hcw hn ih =>
      intro hv hc hc'
      cases hv with | own _ _ _ k c a0 hv hk h1 hb =>
      have hq : obf s.ob r = some (.box cs) := h
      obtain ⟨_, b, c', f1, rfl⟩ := hb cs hq
      obtain ⟨b', c2, vs, e, f, q1, q2, q3, q4, q5, q6⟩ := m.obj r _ hq
      rw [q1] at f1
      simp only [Option.some.injEq, Prod.mk.injEq] at f1
      obtain ⟨rfl, rfl⟩ := f1
      subst hsz
      refine .d _ _ (.lst cs.length [.agg ys] b' 0 1 (fun _ j => f j) (by simp [maxLen]) (Nat.le_refl _) (fun i hi => ?_) (fun i j hi hj => ⟨.inr (.inr ⟨r, cs, c2, hq, q1, ?_, h'⟩), ?_⟩) (fun i hi j hj => ?_) fun i hi j hj => ?_)
      · have : i = 0 := by simpa using hi
        subst this
        simpa [D.cells] using hl
      · have : i = 0 := by simpa using hi
        subst this
        omega
      · have : i = 0 := by simpa using hi
        subst this
        rw [cellAt_heap q2]
        simpa using q5 j hj
      · have : i = 0 := by simpa using hi
        subst this
        exact hn j (by simpa [D.cells] using hj)
      · have : i = 0 := by simpa using hi
        subst this
        have hj' : j < ys.length := by simpa [D.cells] using hj
        have := ih j (by omega) hj' (q6 j (by omega)).2 (fun r' hr' => m.men r _ hq r' (by simpa [OB.refs] using AV.refs_mem cs j (by omega) r' hr')) (fun r' hr' => by simp [AV.refs] at hr')
        cases this with | d _ _ this => exact this
    | refl => intro hv hc hc'; exact hv.mono hS fun r hr => href r (hc r hr) (hc' r hr)
    | dead => intro hv hc hc'; exact .dead _
    | ownL r n n' hn => intro hv hc hc'; subst hn; exact hv.mono hS fun r hr => href r (hc r hr) (hc' r hr)
    | norm x => intro hv hc hc'; cases hv with | d _ _ hv => exact .d _ _ (hv.norm.mono hS)
    | lst r n e sz es f h hn h' =>
      intro hv hc hc'
      cases hv with | own _ _ _ k c a0 hv hk h1 hb =>
      have hq : obf s.ob r = some (.row e sz es f) := h
      obtain ⟨g0, g1, g2, g3⟩ := m.obj r _ hq
      rcases (h1 e sz es f hq).2 hn with ⟨a1, a2, rfl⟩ | ⟨b, cap, a1, rfl⟩
      · have : es = [] := List.eq_nil_of_length_eq_zero (by omega)
        subst this
        exact .d _ _ (.lst0 sz _ _)
      · rcases g3 with ⟨b1, _⟩ | ⟨b', cap', vs, g, f1, f2, f3, f4, f5, f6, f7, f8⟩
        · rw [b1] at a1; simp at a1
        · rw [f1] at a1
          simp only [Option.some.injEq, Prod.mk.injEq] at a1
          obtain ⟨rfl, rfl⟩ := a1
          rw [hn]
          refine .d _ _ (.lst sz es b' 0 cap' g (Nat.le_trans f3 f4) f3 g1 (fun i j hi hj => ⟨.inr (.inl ⟨r, e, sz, es, f, cap', hq, f1, ?_, h'⟩), ?_⟩) g2 fun i hi j hj => (f7 i hi j hj).mono hS)
          · have : (i + 1) * sz ≤ es.length * sz := Nat.mul_le_mul_right _ hi
            rw [Nat.add_mul] at this
            omega
          · rw [cellAt_heap f2, Nat.zero_add]
            exact f6 i j hi hj
    | fresh r e sz h h' =>
      intro hv hc hc'
      cases hv with | d _ _ hv =>
      cases hv with | nil =>
      refine .own r 0 _ 0 0 none rfl rfl (fun e' sz' es' f' hx => ?_) fun cs hx => ?_
      · have h'' : obf s'.ob r = some (.row e sz [] false) := h'
        rw [h''] at hx
        simp only [Option.some.injEq, OB.row.injEq] at hx
        obtain ⟨rfl, rfl, rfl, rfl⟩ := hx
        refine ⟨Nat.le_refl _, fun _ => .inl ⟨?_, rfl, rfl⟩⟩
        have h0 : obf s.ob r = none := h
        simp only [φ', h0]
      · have h'' : obf s'.ob r = some (.row e sz [] false) := h'
        rw [h''] at hx
        simp at hx
  refine ⟨S', φ', ⟨by rw [hR.sz, t1], fun i hi => ?_, hR.df, ⟨?_, ?_, hclO, fun b o h => .inl (m.sS b o h), m.kS, ?_, ?_, m.fr, m.sz, ?_, m.os⟩⟩, fun r hr => ?_⟩
  · have hi' : i < s.tm.length := by omega
    refine ⟨rep (t2 i hi' hi) (hR.tm i hi').1 (hR.tm i hi').2 fun r hr => hclA r (AV.refs_mem s'.tm i hi r hr), fun r hr => hclA r (AV.refs_mem s'.tm i hi r hr)⟩
  · intro r o' ho'
    have hw := o2 r o' ho'
    cases o' with
    | box cs' =>
      obtain ⟨cs, g1, g2⟩ := hw
      have g1' : obf s.ob r = some (.box cs) := g1
      obtain ⟨c1, c2⟩ := cellsW_get s s' g2
      obtain ⟨b, c, vs, e, f, h1, h2, h3, h4, h5, h6⟩ := m.obj r _ g1'
      refine ⟨b, c, vs, e, f, (hφ (by rw [g1']; simp)).trans h1, h2, by omega, fun o ho => ?_, fun j hj => h5 j (by omega), fun j hj => ⟨(c2 j (by omega) hj).1, ?_⟩⟩
      · rcases hS8 (r := r) (by rw [g1']; simp) (by rw [ho']; simp) h1 o ho with h | ⟨e', sz', es', f', q, _⟩
        · exact h4 o h
        · rw [g1'] at q; simp at q
      · exact rep (c2 j (by omega) hj).2 (h6 j (by omega)).2 (fun r' hr' => m.men r _ g1' r' (by simpa [OB.refs] using AV.refs_mem cs j (by omega) r' hr')) fun r' hr' => hclO r _ ho' r' (by simpa [OB.refs] using AV.refs_mem cs' j hj r' hr')
    | map k e es =>
      have g1' : obf s.ob r = some (.map k e es) := hw
      obtain ⟨b, c, arr, clock, h1, h2, h3, h4, h5⟩ := m.obj r _ g1'
      refine ⟨b, c, arr, clock, (hφ (by rw [g1']; simp)).trans h1, h2, h3, fun o ho => ?_, fun i hi => ?_⟩
      · rcases hS8 (r := r) (by rw [g1']; simp) (by rw [ho']; simp) h1 o ho with h | ⟨e', sz', es', f', q, _⟩
        · exact h4 o h
        · rw [g1'] at q; simp at q
      · obtain ⟨x, q1, q2, q3⟩ := h5 i hi
        exact ⟨x, q1, q2, q3.mono hS⟩
    | row e sz es frz =>
      rcases hw with ⟨f, g1, g2⟩ | ⟨g1, rfl, g2⟩
      · have g1' : obf s.ob r = some (.row e sz es f) := g1
        obtain ⟨h0, h1, h2, h3⟩ := m.obj r _ g1'
        refine ⟨h0, h1, h2, h3.imp (fun q => ⟨(hφ (by rw [g1']; simp)).trans q.1, q.2⟩) ?_⟩
        rintro ⟨b, cap, vs, g, f1, f2, f3, f4, f5, f6, f7, f8⟩
        refine ⟨b, cap, vs, g, (hφ (by rw [g1']; simp)).trans f1, f2, f3, f4, f5, f6, fun i hi j hj => (f7 i hi j hj).mono hS, fun o ho hs => ?_⟩
        rcases hS8 (r := r) (by rw [g1']; simp) (by rw [ho']; simp) f1 o hs with h | ⟨e', sz', es', f', q, q2, q3⟩
        · refine f8 o ?_ h
          cases f with
          | false => simp
          | true => rw [g2 rfl] at ho; exact ho
        · rw [g1'] at q
          simp only [Option.some.injEq, OB.row.injEq] at q
          obtain ⟨rfl, rfl, rfl, rfl⟩ := q
          rcases q3 with q3 | q3
          · rw [ho'] at q3; simp at q3
          · rw [ho'] at q3
            simp only [Option.some.injEq, OB.row.injEq] at q3
            rw [q3.2.2.2] at ho
            simp only [if_true] at ho
            omega
      · refine ⟨g2, fun i hi => by simp at hi, fun i hi => by simp at hi, .inl ⟨?_, rfl⟩⟩
        have g1' : obf s.ob r = none := g1
        simp only [φ', g1']
  · intro r1 r2 b c c' h1 h2 g1 g2
    have q : ∀ {r : Nat} {x : Nat × Nat}, φ' r = some x → obf s.ob r ≠ none ∧ φ r = some x := by
      intro r x h
      simp only [φ'] at h
      cases hq : obf s.ob r with
      | none => simp [hq] at h
      | some q => simp only [hq] at h; exact ⟨by simp, h⟩
    obtain ⟨a1, a2⟩ := q g1
    obtain ⟨b1, b2⟩ := q g2
    exact m.inj r1 r2 b c c' a1 b1 a2 b2
  · intro b o h
    rcases h with h | ⟨r, e, sz, es, f, c, g1, g2, _⟩ | ⟨r, cs, c, g1, g2, _⟩
    · exact m.bS b o h
    · exact (m.ow r b c (by rw [g1]; simp) g2).1
    · exact (m.ow r b c (by rw [g1]; simp) g2).1
  · intro b o h h1 h2
    rcases h with h | ⟨r, e, sz, es, f, c, g1, g2, _⟩ | ⟨r, cs, c, g1, g2, _⟩
    · exact m.nS b o h h1 h2
    · rcases (m.ow r b c (by rw [g1]; simp) g2).2 with g | g
      · omega
      · exact absurd g h2
    · rcases (m.ow r b c (by rw [g1]; simp) g2).2 with g | g
      · omega
      · exact absurd g h2
  · intro r b c h g
    simp only [φ'] at g
    cases hq : obf s.ob r with
    | none => simp [hq] at g
    | some q =>
      simp only [hq] at g
      exact m.ow r b c (by rw [hq]; simp) g
  · have h1 : obf s'.ob r ≠ none := by
      simp only [List.all_eq_true, List.mem_range] at hpar
      have := hpar r hr
      intro h
      simp only [obf] at h
      rw [h] at this
      simp at this
    exact ⟨h1, (htr r hr).2.trans (href r (htr r hr).1 h1)⟩

/-! ### Code -/
def AE.exit' : AE → Exit
  | .normal => .normal
  | .exit id => .exit id
  | .ret => .ret

/-- a region that draws its order goes through, whatever order is drawn -/
def DrawOK (P : Program) (cx : Cx) : Prop := ∀ (E : Env) (tr : Trk) (id : Nat) (ops : Array Oper) (st : ASt) (a : Act) (w : World) (K : ASt → Prop) (Q : Exit → Act → World → Prop), tr.np = cx.np →
  drawOK ops = true → opsDK cx ops ops.toList [] st (fun evs st' => confOK ops 0 evs = true ∧ K st') → RR E tr st a w → (∀ st' a' w', K st' → RR E tr st' a' w' → Q .normal a' w') → (Code.region id ops true).wp P Q a w

theorem cutK_sound {np : Nat} (hnp : tr.np = np) {X : (ASt → Prop) → Prop} {K : ASt → Prop} {c : Prop} (h : CutP np X K)
    (hX : ∀ K' : ASt → Prop, X K' → (∀ (st' : ASt) (a' : Act) (w' : World), K' st' → RR E tr st' a' w' → ∃ st, K st ∧ RR E tr st a' w') → c) : c := by
  rcases h with h | ⟨J, h1, h2⟩
  · exact hX K h fun st a' w' hK hR => ⟨st, hK, hR⟩
  · refine hX _ h1 fun st a' w' ⟨s, hw, hJ⟩ hR => ⟨s, h2 s hJ, ?_⟩
    rw [← hnp] at hw
    exact weak_sound hw hR

theorem codeK_sound {cx : Cx} (hT : TabOk P cx.T) (hC : ∀ f args objs res objs', cx.C f args objs res objs' → CallsOK P f args objs res objs') (hD : DrawOK P cx) (hnp : tr.np = cx.np) (c : Code) :
    ∀ {st : ASt} {a : Act} {w : World} {K : AE → ASt → Prop} {Q : Exit → Act → World → Prop}, codeK cx c K st → RR E tr st a w → (∀ e st' a' w', K e st' → RR E tr st' a' w' → Q e.exit' a' w') → c.wp P Q a w := by
  induction c with
  | skip => intro st a w K Q h hR hn; exact wp_skip (hn .normal _ _ _ h hR)
  | region id ops draw =>
    intro st a w K Q h hR hn
    cases draw with
    | false =>
      have h : regK cx ops st (K .normal) := h
      unfold regK at h
      split at h
      · refine cutK_sound (E := E) hnp h fun K' hX hw => wp_region (ops_sound hT hC (List.range ops.size) ops.toList (range_ops ops) hX hR fun st' a' w' hK hR' => ?_)
        obtain ⟨s, h1, h2⟩ := hw _ _ _ hK hR'
        exact hn .normal _ _ _ h1 h2
      · exact wp_region (ops_sound hT hC (List.range ops.size) ops.toList (range_ops ops) h hR fun st' a' w' hK hR' => hn .normal _ _ _ hK hR')
    | true =>
      simp only [codeK] at h
      split at h
      · refine cutK_sound (E := E) hnp h fun K' hX hw => hD E tr id ops st a w _ Q hnp hX.1 hX.2 hR fun st' a' w' hK hR' => ?_
        obtain ⟨s, h1, h2⟩ := hw _ _ _ hK hR'
        exact hn .normal _ _ _ h1 h2
      · exact hD E tr id ops st a w _ Q hnp h.1 h.2 hR fun st' a' w' hK hR' => hn .normal _ _ _ hK hR'
  | seq x y ihx ihy =>
    intro st a w K Q h hR hn
    simp only [codeK] at h
    refine wp_seq (ihx h hR fun e st' a' w' hK hR' => ?_)
    cases e with
    | normal => exact ihy hK hR' hn
    | exit id => exact hn _ _ _ _ hK hR'
    | ret => exact hn _ _ _ _ hK hR'
  | cond c x y ihx ihy =>
    intro st a w K Q h hR hn
    simp only [codeK] at h
    obtain ⟨S, φ, hR1, htr⟩ := hR
    split at h
    · rename_i b hb
      have hav := (hR1.av c).1
      rw [hb] at hav
      have hv := hav.bool
      refine cutK_sound (E := E) hnp h fun K' hX hw => ?_
      have hn' : ∀ e st' a' w', onN K K' e st' → RR E tr st' a' w' → Q e.exit' a' w' := by
        intro e st' a' w' hK hR'
        cases e with
        | normal =>
          obtain ⟨s, h1, h2⟩ := hw _ _ _ hK hR'
          exact hn .normal _ _ _ h1 h2
        | exit id => exact hn _ _ _ _ hK hR'
        | ret => exact hn _ _ _ _ hK hR'
      refine wp_cond hv ?_
      cases b with
      | true => exact ihx hX ⟨S, φ, hR1, htr⟩ hn'
      | false => exact ihy hX ⟨S, φ, hR1, htr⟩ hn'
    · exact h.elim
  | block id b ih =>
    intro st a w K Q h hR hn
    simp only [codeK] at h
    refine cutK_sound (E := E) hnp h fun K' hX hw => ?_
    refine wp_block (ih hX hR fun e st' a' w' hK hR' => ?_)
    cases e with
    | normal =>
      obtain ⟨s, h1, h2⟩ := hw _ _ _ hK hR'
      exact hn .normal _ _ _ h1 h2
    | ret => exact hn .ret _ _ _ hK hR'
    | exit i =>
      simp only [onB] at hK
      simp only [AE.exit', Exit.inBlock]
      by_cases hi : i = id
      · rw [if_pos hi]
        rw [beq_iff.2 hi] at hK
        obtain ⟨s, h1, h2⟩ := hw _ _ _ hK hR'
        exact hn .normal _ _ _ h1 h2
      · rw [if_neg hi]
        have : Nat.beq i id = false := by
          cases hb : Nat.beq i id with
          | false => rfl
          | true => exact absurd (beq_iff.1 hb) hi
        rw [this] at hK
        exact hn (.exit i) _ _ _ hK hR'
  | loop b ih =>
    intro st a w K Q h hR hn
    have h : LoopP cx.np (codeK cx b) K st := h
    obtain ⟨h⟩ := h
    obtain ⟨I, ⟨s, n, hw, hI⟩, round⟩ := h (by
      intro t sz es he
      obtain ⟨S, φ, hR1, htr⟩ := hR
      have hav := (hR1.av (.tmp t)).1
      simp only [evO] at hav
      rw [he] at hav
      generalize a.eval (.tmp t) = v at hav
      cases hav with | d _ _ hav =>
      cases hav with
      | lst0 => simp
      | lst _ _ _ _ _ _ hl => exact hl) (by
      intro r e sz es f he
      obtain ⟨S, φ, hR1, htr⟩ := hR
      obtain ⟨_, _, _, h⟩ := hR1.mem.obj r _ he
      rcases h with ⟨_, rfl⟩ | ⟨b, cap, vs, g, _, _, f3, f4, _⟩
      · simp
      · exact Nat.le_trans f3 f4)
    rw [← hnp] at hw
    refine wp_loop_ghost (fun n a w => ∃ s, I s n ∧ RR E tr s a w) n ⟨s, hI, weak_sound hw hR⟩ ?_
    rintro n a w ⟨s, hI, hR⟩
    refine ih (round s n hI) hR fun e st' a' w' hK hR' => ?_
    cases e with
    | normal =>
      obtain ⟨s', m, hm, hw, hI'⟩ := hK
      rw [← hnp] at hw
      exact ⟨m, hm, s', hI', weak_sound hw hR'⟩
    | exit id => exact hn _ _ _ _ hK hR'
    | ret => exact hn _ _ _ _ hK hR'
  | exit id => intro st a w K Q h hR hn; exact wp_exit (hn (.exit id) _ _ _ h hR)
  | ret => intro st a w K Q h hR hn; exact wp_ret (hn .ret _ _ _ h hR)
  | rangeFunc => intro st a w K Q h; simp [codeK] at h
  | scope => intro st a w K Q h; simp [codeK] at h
  | label => intro st a w K Q h; simp [codeK] at h
  | goto => intro st a w K Q h; simp [codeK] at h
  | refuse => intro st a w K Q h; simp [codeK] at h
end
end Go.AX
