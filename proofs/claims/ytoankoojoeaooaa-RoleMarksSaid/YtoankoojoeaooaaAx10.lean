/-
  AX, part 10: a function: what its body leaves is what the call hands back.
-/
import Derived.Test.YtoankoojoeaooaaAx9
namespace Go.AX
section
variable {P : Program} {E : Env} {tr : Trk} {w : World} {S : Sc} {φ : Nat → Option (Nat × Nat)}

def resF (tmps : Array Value) : ResultVar → Sem Value
  | .tmp t => pure (tmps.getD t undef)
  | .cell a t => do loadVar t (← asAddr (tmps.getD a undef))

def packR : List Value → Value
  | [u] => u
  | us => .tuple us.toArray

theorem results_eq (fn : Func) (tmps : Array Value) : results fn tmps = (do
    let vs ← fn.results.mapM (resF tmps)
    pure (if h : vs.size = 1 then vs[0] else .tuple vs)) := by
  unfold results
  congr 2

theorem results_run {fn : Func} {tmps : Array Value} {us : List Value} (h : (fn.results.toList.mapM (resF tmps)).run P w = .ok us w) : (results fn tmps).run P w = .ok (packR us) w := by
  rw [results_eq, Array.mapM_eq_mapM_toList]
  simp only [Sem.run_bind, Sem.run_map, h, Result.andThen_ok, Sem.run_pure]
  match us with
  | [] => rfl
  | [u] => rfl
  | u :: v :: us => rfl

theorem resK_sound {cx : Cx} (hT : TabOk P cx.T) {st : ASt} {a : Act} (hR : R E st a w S φ) : ∀ {rs : List ResultVar} {K : List AV → Prop}, resK cx st rs K →
    ∃ as us, K as ∧ (rs.mapM (resF a.tmps)).run P w = .ok us w ∧ All2 (fun x v => RepA S w φ (obf st.ob) x v ∧ Closed (obf st.ob) x) as us
  | [], K, h => ⟨[], [], h, rfl, .nil⟩
  | .tmp t :: rs, K, h => by
    simp only [resK, force_iff] at h
    obtain ⟨as, us, h1, h2, h3⟩ := resK_sound hT hR h
    refine ⟨_, a.tmps.getD t undef :: us, h1, ?_, .cons (hR.av (.tmp t)) h3⟩
    simp [List.mapM_cons, resF, h2]
  | .cell p ty :: rs, K, h => by
    simp only [resK] at h
    have hp := hR.av (.tmp p)
    simp only [evO] at hp
    split at h
    · rename_i r off hr
      rw [hr] at hp
      obtain ⟨out, u, h1, h2, h3, h4⟩ := loadK_sound hT hR.mem hp.1 hp.2 h
      obtain ⟨as, us, g1, g2, g3⟩ := resK_sound hT hR h1
      refine ⟨_, u :: us, g1, ?_, .cons ⟨h3, h4⟩ g3⟩
      obtain ⟨b, c, _, hv⟩ := hp.1.ref'
      have hv : a.tmps.getD p undef = .pointer (some ⟨b, off, none⟩) := hv
      have h2' : (loadVar ty ⟨b, off, none⟩).run P w = .ok u w := by
        have : (Instr.loadAt ty (a.tmps.getD p undef)).run P w = .ok u w := h2
        rw [hv] at this
        simpa [Instr.loadAt, Instr.sureAddr] using this
      simp only [List.mapM_cons, resF, hv, asAddr, Sem.run_bind, Sem.run_pure, Result.andThen_ok, h2', g2]
    · exact h.elim

/-- A part of the objects, under new numbers. -/
theorem Mem.restrict {ob : Nat → Option OB} (m : Mem E w S φ ob) {idx : List Nat} {objs : List OB} (hn : idx.Nodup) (hl : idx.length = objs.length)
    (ho : ∀ i (hi : i < idx.length) (hi' : i < objs.length), ob idx[i] = some objs[i] ∧ closedO objs[i] = true) : Mem E w S (sel idx φ) (ofL objs) := by
  have get : ∀ {i : Nat}, ofL objs i ≠ none → ∃ hi : i < idx.length, ob idx[i] ≠ none ∧ sel idx φ i = φ idx[i] := by
    intro i h
    have hi : i < idx.length := by
      refine Nat.lt_of_not_le fun hge => h ?_
      simp [ofL, show objs.length ≤ i by omega]
    refine ⟨hi, ?_, by simp [sel, hi]⟩
    rw [(ho i hi (by omega)).1]; simp
  refine ⟨fun i o h => ?_, fun i j b c c' h1 h2 g1 g2 => ?_, fun i o h r' hm => ?_, m.sS, m.kS, m.bS, m.nS, m.fr, m.sz, fun i b c h g => ?_, m.os⟩
  · obtain ⟨hi, h1, h2⟩ := get (i := i) (by simp [h])
    have e1 : objs[i] = o := by simpa [ofL, show i < objs.length by omega] using h
    rw [← e1]
    exact (m.obj _ _ (ho i hi (by omega)).1).rename (ho i hi (by omega)).2 h2
  · obtain ⟨hi, p1, p2⟩ := get h1
    obtain ⟨hj, q1, q2⟩ := get h2
    rw [p2] at g1
    rw [q2] at g2
    exact (List.getElem_inj hn).1 (m.inj _ _ b c c' p1 q1 g1 g2)
  · obtain ⟨hi, _, _⟩ := get (i := i) (by simp [h])
    have e1 : objs[i] = o := by simpa [ofL, show i < objs.length by omega] using h
    rw [← e1, closedO_refs (ho i hi (by omega)).2] at hm
    simp at hm
  · obtain ⟨hi, p1, p2⟩ := get h
    exact m.ow _ b c p1 (p2 ▸ g)

theorem takeOb_sound {obl : List (Option OB)} : ∀ {n i : Nat} {K : List OB → Prop}, takeOb obl n i K → ∃ objs, K objs ∧ objs.length = n ∧ ∀ j (hj : j < objs.length), obl.getD (i + j) none = some objs[j] ∧ closedO objs[j] = true
  | 0, i, K, h => ⟨[], h, rfl, fun j hj => by simp at hj⟩
  | n + 1, i, K, h => by
    simp only [takeOb, findO_iff] at h
    obtain ⟨o, ho, h⟩ := h
    have go : ∀ {o : OB}, obl.getD i none = some o → closedO o = true → takeOb obl n (i + 1) (fun l => K (o :: l)) → ∃ objs, K objs ∧ objs.length = n + 1 ∧ ∀ j (hj : j < objs.length), obl.getD (i + j) none = some objs[j] ∧ closedO objs[j] = true := by
      intro o ho hc h
      obtain ⟨objs, g1, g2, g3⟩ := takeOb_sound h
      refine ⟨o :: objs, g1, by simp [g2], fun j hj => ?_⟩
      cases j with
      | zero => exact ⟨ho, hc⟩
      | succ j =>
        have := g3 j (by simpa using hj)
        rw [show i + 1 + j = i + (j + 1) by omega] at this
        exact this
    cases o with
    | box cs =>
      simp only [cellsD_iff] at h
      exact go ho h.1 h.2
    | row e sz es f => exact go ho rfl h
    | map k e es => exact go ho rfl h

/-- one result as it leaves: what is frozen lies behind 'np' -/
theorem outK_sound {obl : List (Option OB)} {ob : Nat → Option OB} {np : Nat} (m : Mem E w S φ ob) (hx : FrzExt (obf obl) ob) {x : AV} {v : Value} {K : AV → Option Nat → Prop} (hv : RepA S w φ ob x v) (hc : Closed (obf obl) x) (h : outK np obl x K) :
    ∃ x' nw wr S', K x' nw ∧ Mem E w S' φ (updW ob wr) ∧ Kept w S φ ob w S' φ (updW ob wr) ∧ FrzExt (obf obl) (updW ob wr) ∧ (∀ q ∈ wr, np ≤ q.1) ∧
      ((nw = none ∧ RepA S' w φ (updW ob wr) x' v ∧ Closed (obf obl) x' ∧ ∀ r ∈ x'.refs, r < np) ∨ ∃ r off, nw = some r ∧ x' = .ref np off ∧ np ≤ r ∧ x = .ref r off) := by
  cases x <;> simp only [outK] at h
  case d y =>
    rw [normK_iff] at h
    cases hv with | d _ _ hv =>
    exact ⟨_, _, [], S, h, m, .refl _ _ _ _, hx, fun q hq => by simp at hq, .inl ⟨rfl, .d _ _ hv.norm, closed_d _ _, fun r hr => by simp [AV.refs] at hr⟩⟩
  case own r n =>
    split at h
    · rename_i hb
      exact ⟨_, _, [], S, h, m, .refl _ _ _ _, hx, fun q hq => by simp at hq, .inl ⟨rfl, hv, hc, fun r' hr' => by simp only [AV.refs, List.mem_singleton] at hr'; rw [hr']; exact Nat.le_of_ble_eq_true hb⟩⟩
    · rename_i hb
      have hge : np ≤ r := by
        refine Nat.le_of_not_lt fun hlt => ?_
        rw [show Nat.blt r np = true from Nat.ble_eq_true_of_le hlt] at hb
        simp at hb
      have h0 := h
      simp only [toD, findO_iff] at h0
      obtain ⟨y, wr, S', h1, h2, h3, h4, h5, h6⟩ := toD_sound (K := fun x w => K (.d x) none ∧ ∀ q ∈ w, np ≤ q.1) m hx hv (by
        obtain ⟨o, ho, h0⟩ := h0
        simp only [toD, findO_iff]
        refine ⟨o, ho, ?_⟩
        cases o with
        | box => exact h0
        | map => exact h0
        | row e sz es f => exact ⟨h0.1, h0.2, fun q hq => by simp only [List.mem_singleton] at hq; rw [hq]; exact hge⟩)
      exact ⟨_, _, wr, S', h1.1, h2, h3, h5, h1.2, .inl ⟨rfl, .d _ _ h4, closed_d _ _, fun r hr => by simp [AV.refs] at hr⟩⟩
  case agg cs =>
    obtain ⟨y, wr, S', h1, h2, h3, h4, h5, h6⟩ := toD_sound m hx hv h
    rw [onlyIf_iff] at h1
    refine ⟨_, _, wr, S', h1.2, h2, h3, h5, fun q hq => ?_, .inl ⟨rfl, .d _ _ h4, closed_d _ _, fun r hr => by simp [AV.refs] at hr⟩⟩
    have := h1.1
    simp only [List.all_eq_true] at this
    exact Nat.le_of_ble_eq_true (this q hq)
  case mp r =>
    split at h
    · rename_i hb
      exact ⟨_, _, [], S, h, m, .refl _ _ _ _, hx, fun q hq => by simp at hq, .inl ⟨rfl, hv, hc, fun r' hr' => by simp only [AV.refs, List.mem_singleton] at hr'; rw [hr']; exact Nat.le_of_ble_eq_true hb⟩⟩
    · exact h.elim
  case ref r off =>
    split at h
    · rename_i hb
      exact ⟨_, _, [], S, h, m, .refl _ _ _ _, hx, fun q hq => by simp at hq, .inl ⟨rfl, hv, hc, fun r' hr' => by simp only [AV.refs, List.mem_singleton] at hr'; rw [hr']; exact Nat.le_of_ble_eq_true hb⟩⟩
    · rename_i hb
      have hge : np ≤ r := by
        refine Nat.le_of_not_lt fun hlt => ?_
        rw [show Nat.blt r np = true from Nat.ble_eq_true_of_le hlt] at hb
        simp at hb
      exact ⟨_, _, [], S, h, m, .refl _ _ _ _, hx, fun q hq => by simp at hq, .inr ⟨r, off, rfl, rfl, hge, rfl⟩⟩

theorem outsK_sound {obl : List (Option OB)} {np : Nat} : ∀ {xs : List AV} {vs : List Value} {S : Sc} {ob : Nat → Option OB} {K : List AV → Prop} (_ : Mem E w S φ ob) (_ : FrzExt (obf obl) ob) (_ : All2 (fun x v => RepA S w φ ob x v ∧ Closed (obf obl) x) xs vs) (_ : outsK np obl xs K),
    ∃ xs' wr S', K xs' ∧ Mem E w S' φ (updW ob wr) ∧ Kept w S φ ob w S' φ (updW ob wr) ∧ FrzExt (obf obl) (updW ob wr) ∧ (∀ q ∈ wr, np ≤ q.1) ∧ All2 (fun x v => RepA S' w φ (updW ob wr) x v ∧ Closed (obf obl) x ∧ ∀ r ∈ x.refs, r < np) xs' vs
  | [], [], S, ob, K, m, hx, _, h => ⟨[], [], S, h, m, .refl _ _ _ _, hx, fun q hq => by simp at hq, .nil⟩
  | x :: xs, v :: vs, S, ob, K, m, hx, hv, h => by
    cases hv with | cons h1 h2 =>
    simp only [outsK] at h
    obtain ⟨x', nw, wr, S1, hK, m1, k1, hx1, hw1, hr⟩ := outK_sound m hx h1.1 h1.2 h
    rcases hr with ⟨rfl, r1, r2, r3⟩ | ⟨r, off, rfl, _⟩
    · simp only at hK
      have hcl : ∀ {r : Nat}, obf obl r ≠ none → ob r ≠ none := by
        intro r hr
        rcases hx r with e1 | ⟨e, sz, es, f, e1, e2⟩
        · rw [e1]; exact hr
        · rw [e2]; simp
      have hcl1 : ∀ {r : Nat}, obf obl r ≠ none → updW ob wr r ≠ none := by
        intro r hr
        rcases hx1 r with e1 | ⟨e, sz, es, f, e1, e2⟩
        · rw [e1]; exact hr
        · rw [e2]; simp
      obtain ⟨xs', wr2, S2, g1, g2, g3, g4, g5, g6⟩ := outsK_sound m1 hx1 (h2.imp fun a v hav => ⟨k1.rep (fun r hr => hcl (hav.2 r hr)) hav.1, hav.2⟩) hK
      refine ⟨x' :: xs', wr ++ wr2, S2, g1, by rw [updW_append]; exact g2, by rw [updW_append]; exact k1.trans g3, by rw [updW_append]; exact g4, fun q hq => ?_, ?_⟩
      · rcases List.mem_append.1 hq with hq | hq
        · exact hw1 q hq
        · exact g5 q hq
      · rw [updW_append]
        exact .cons ⟨g3.rep (fun r hr => hcl1 (r2 r hr)) r1, r2, r3⟩ g6
    · exact hK.elim
  | [], _ :: _, _, _, _, _, _, hv, _ => by cases hv
  | _ :: _, [], _, _, _, _, _, hv, _ => by cases hv

/-- a value without own references, under the numbers of the objects that are handed back -/
theorem rep_restrict {ob : Nat → Option OB} {idx : List Nat} {objs : List OB} {np : Nat} {x : AV} {v : Value} (h : RepA S w φ ob x v) (hr : ∀ r ∈ x.refs, r < np) (hi : ∀ r, r < np → idx[r]? = some r) (ho : ∀ r, r < np → ofL objs r = ob r) :
    RepA S w (sel idx φ) (ofL objs) x v := by
  refine h.mono (fun _ _ h => ⟨h, rfl⟩) fun r hr' => .inl ?_
  have := hr r hr'
  simp [sel, hi r this, ho r this]

theorem funK_sound {cx : Cx} (hT : TabOk P cx.T) (hC : ∀ f args objs res objs', cx.C f args objs res objs' → CallsOK P f args objs res objs') (hD : DrawOK P cx) {f : FuncId} {fn : Func} (hf : P.funcs[f]? = some fn) (hname : fn.name ≠ "runtime.NumGoroutine")
    {args : List AV} {objs : List OB} {res : AV} {objs' : List OB} (h : funK cx fn args objs fun r o => r = res ∧ o = objs') : CallsOK P f args objs res objs' := by
  obtain ⟨hnp, h⟩ := h
  cases hb : fn.body with
  | none => simp [hb] at h
  | some c =>
    simp only [hb] at h
    refine ⟨⟨fn, hf, hname, by rw [hb]; rfl⟩, fun w S φ vals hsz hargs hnone m => ?_⟩
    have hobf : obf (initSt fn args objs).ob = ofL objs := by
      funext r
      simp only [obf, initSt, ofL, List.getD_eq_getElem?_getD]
      by_cases hr : r < objs.length
      · rw [List.getElem?_append_left (by simpa using hr)]
        simp [hr]
      · rw [List.getElem?_append_right (by simpa using hr)]
        simp only [List.length_map, List.getElem?_replicate]
        split <;> simp [show objs.length ≤ r by omega]
    refine calls_of_wp hf hb (codeK_sound (E := ⟨w, S, PBof φ objs.length⟩) (tr := ⟨objs.length, φ, ofL objs⟩) hT hC hD hnp.symm c h ⟨S, φ, ⟨?_, fun i hi => ?_, rfl, by rw [hobf]; exact m⟩, fun r hr => ?_⟩ ?_)
    · simp [initSt, hsz]
    · rw [hobf]
      simp only [initSt, List.getElem_append]
      split
      · rename_i hlt
        have := hargs i hlt
        have e : (vals ++ Array.replicate (fn.ntmps - vals.size) undef).getD i undef = vals.getD i undef := by
          have : i < vals.size := by omega
          simp [Array.getElem?_append_left this]
        rw [e]; exact this
      · rw [List.getElem_replicate]
        exact ⟨.dead _, closed_dead _⟩
    · rw [hobf]
      refine ⟨by simp only [ofL]; rw [List.getElem?_eq_getElem hr]; simp, .refl _ _ _⟩
    · -- the end
      intro e st a w' hl hR
      obtain ⟨S1, φ1, hR, htr⟩ := hR
      have hne : ∀ id, e ≠ .exit id := fun id he => by subst he; exact hl
      have hl' : resK cx st fn.results.toList (fun as => takeOb st.ob cx.np 0 fun objs => (match as with
        | [a] => outK cx.np st.ob a fun a' nw => (match nw with
          | none => a' = res ∧ objs = objs'
          | some r => findO st.ob r fun o => match o with
            | .box cs => objsK.cellsD cs fun cs => a' = res ∧ objs ++ [.box cs] = objs'
            | .row _ _ _ _ => False
            | .map _ _ _ => False)
        | as => outsK cx.np st.ob as fun as' => .tup as' = res ∧ objs = objs')) := by
        cases e with
        | exit id => exact absurd rfl (hne id)
        | normal => exact hl
        | ret => exact hl
      obtain ⟨as, us, h1, h2, h3⟩ := resK_sound hT hR hl'
      obtain ⟨obs, h1, ho1, ho2⟩ := takeOb_sound h1
      simp only [Nat.zero_add] at ho2
      rw [hnp] at ho1 h1
      have hrun := results_run h2
      -- what is wanted of the end
      suffices hend : ∃ v, (results fn a.tmps).run P w' = .ok v w' ∧ ∃ S' φ', Mem ⟨w, S, PBof φ objs.length⟩ w' S' φ' (ofL objs') ∧ Kept w S φ (ofL objs) w' S' φ' (ofL objs') ∧ RepA S' w' φ' (ofL objs') res v ∧ Closed (ofL objs') res by
        obtain ⟨v, g1, g2⟩ := hend
        have : a.defers = [] ∧ ∃ v, (results fn a.tmps).run P w' = .ok v w' ∧ ∃ v', Ending.returned v = .returned v' ∧ ∃ S' φ', Mem ⟨w, S, PBof φ objs.length⟩ w' S' φ' (ofL objs') ∧ Kept w S φ (ofL objs) w' S' φ' (ofL objs') ∧ RepA S' w' φ' (ofL objs') res v' ∧ Closed (ofL objs') res :=
          ⟨hR.df, v, g1, v, rfl, g2⟩
        cases e with
        | exit id => exact absurd rfl (hne id)
        | normal => exact this
        | ret => exact this
      -- the objects that came in, as they are handed back
      have fin : ∀ {S' : Sc} {ob : Nat → Option OB} {idx : List Nat} {x : AV} {v : Value} (_ : Mem ⟨w, S, PBof φ objs.length⟩ w' S' φ1 ob) (_ : ∀ r, r < objs.length → ob r = obf st.ob r) (_ : idx.Nodup) (_ : idx.length = objs'.length)
          (_ : ∀ i (hi : i < idx.length) (hi' : i < objs'.length), ob idx[i] = some objs'[i] ∧ closedO objs'[i] = true) (_ : ∀ r, r < objs.length → idx[r]? = some r) (_ : Keeps S1 w' S' w')
          (_ : RepA S' w' (sel idx φ1) (ofL objs') x v) (_ : Closed (ofL objs') x), ∃ S' φ', Mem ⟨w, S, PBof φ objs.length⟩ w' S' φ' (ofL objs') ∧ Kept w S φ (ofL objs) w' S' φ' (ofL objs') ∧ RepA S' w' φ' (ofL objs') x v ∧ Closed (ofL objs') x := by
        intro S' ob idx x v m' hob hn hl ho hi hk hv hc
        refine ⟨S', _, m'.restrict hn hl ho, ⟨fun b o hS => ⟨m'.sS b o hS, m'.kS b o hS⟩, fun r hr => ?_, fun r hr => ?_⟩, hv, hc⟩
        · have hlt : r < objs.length := by
            refine Nat.lt_of_not_le fun hge => hr ?_
            simp [ofL, hge]
          obtain ⟨q1, q2⟩ := htr r hlt
          have e1 : sel idx φ1 r = φ1 r := by simp [sel, hi r hlt]
          have hlt2 := (List.getElem?_eq_some_iff.1 (hi r hlt)).1
          have e3 : idx[r] = r := (List.getElem?_eq_some_iff.1 (hi r hlt)).2
          have e2 : ofL objs' r = obf st.ob r := by
            have := (ho r hlt2 (by omega)).1
            rw [e3, hob r hlt] at this
            rw [this]
            simp [ofL, show r < objs'.length by omega]
          unfold RefOK at q2 ⊢
          rw [e1, e2]
          exact q2
        · have hlt : r < objs.length := by
            refine Nat.lt_of_not_le fun hge => hr ?_
            simp [ofL, hge]
          have hlt2 := (List.getElem?_eq_some_iff.1 (hi r hlt)).1
          simp only [ofL]
          rw [List.getElem?_eq_getElem (show r < objs'.length by omega)]
          simp
      have hcl : ∀ {ob : Nat → Option OB}, FrzExt (obf st.ob) ob → ∀ {wr : W}, True := fun _ {_} => trivial
      have hrange : ∀ r, r < objs.length → (List.range objs.length)[r]? = some r := fun r hr => by simp [hr]
      have hoff : ∀ {wr : W} {r : Nat}, (∀ q ∈ wr, objs.length ≤ q.1) → r < objs.length → updW (obf st.ob) wr r = obf st.ob r := fun hw hr => updW_other _ _ _ fun q hq e => by have := hw q hq; omega
      split at h1
      · -- one result
        rename_i x
        cases h3 with | cons hv hrest =>
        cases hrest
        rename_i u
        obtain ⟨x', nw, wr, S', hK, m1, k1, hx1, hw1, hr⟩ := outK_sound hR.mem (FrzExt.refl _) hv.1 hv.2 h1
        refine ⟨u, hrun, ?_⟩
        rcases hr with ⟨rfl, r1, r2, r3⟩ | ⟨r, off, rfl, rfl, hge, rfl⟩
        · obtain ⟨rfl, rfl⟩ := hK
          have hO : ∀ r, r < objs.length → ofL obs r = updW (obf st.ob) wr r := fun r hr => by
            rw [hoff hw1 hr]
            have := (ho2 r (by omega)).1
            simp only [obf, this, ofL]
            simp [show r < obs.length by omega]
          refine fin m1 (fun r hr => hoff hw1 hr) List.nodup_range (by simp [ho1]) (fun i hi hi' => ?_) hrange k1.k (rep_restrict r1 r3 hrange hO) fun r hr => ?_
          · simp only [List.length_range] at hi
            simp only [List.getElem_range]
            rw [hoff hw1 hi]
            exact ho2 i hi'
          · rw [hO r (r3 r hr), hoff hw1 (r3 r hr)]
            exact r2 r hr
        · simp only [findO_iff] at hK
          obtain ⟨o, ho, hK⟩ := hK
          cases o with
          | row => exact hK.elim
          | map => exact hK.elim
          | box cs =>
            simp only [cellsD_iff] at hK
            obtain ⟨hcc, rfl, rfl⟩ := hK
            have hbox : updW (obf st.ob) wr r = some (.box cs) := by
              rcases hx1 r with e1 | ⟨e', sz, es, f', e1, _⟩
              · rw [e1]; exact ho
              · have : obf st.ob r = some (.box cs) := ho
                rw [this] at e1; simp at e1
            have hidx : (List.range objs.length ++ [r]).Nodup := by
              rw [List.nodup_append]
              exact ⟨List.nodup_range, by simp, fun a ha b hb => by simp at ha hb; omega⟩
            refine fin m1 (fun r hr => hoff hw1 hr) hidx (by simp [ho1]) (fun i hi hi' => ?_) (fun q hq => ?_) k1.k ?_ fun q hq => ?_
            · simp only [List.length_append, List.length_range, List.length_singleton] at hi
              by_cases hlt : i < objs.length
              · rw [List.getElem_append_left (by simpa using hlt), List.getElem_append_left (by omega)]
                simp only [List.getElem_range]
                rw [hoff hw1 hlt]
                exact ho2 i (by omega)
              · have : i = objs.length := by omega
                subst this
                rw [List.getElem_append_right (by simp), List.getElem_append_right (by omega)]
                simp only [List.length_range, Nat.sub_self, List.getElem_cons_zero, ho1]
                exact ⟨hbox, hcc⟩
            · rw [List.getElem?_append_left (by simpa using hq)]
              exact hrange q hq
            · have hrep := k1.rep hv.2 hv.1
              obtain ⟨b, c, hφ, rfl⟩ := hrep.ref'
              refine .ref _ off b c ?_ fun e' sz es f' hx => ?_
              · simp only [sel]
                rw [List.getElem?_append_right (by simp)]
                simpa using hφ
              · simp only [ofL] at hx
                rw [List.getElem?_append_right (by omega)] at hx
                simp [ho1] at hx
            · simp only [AV.refs, List.mem_singleton] at hq
              rw [hq]
              simp [ofL, ho1]
      · -- none, or several
        rename_i hno
        obtain ⟨xs', wr, S', hK, m1, k1, hx1, hw1, hr⟩ := outsK_sound hR.mem (FrzExt.refl _) h3 h1
        obtain ⟨rfl, rfl⟩ := hK
        have hlen : ∀ {α β : Type} {l : List α} {k : List β} {R : α → β → Prop}, All2 R l k → l.length = k.length := by
          intro α β l k R h
          induction h with
          | nil => rfl
          | cons _ _ ih => simp [ih]
        have hget : ∀ {l : List AV} {k : List Value} {R : AV → Value → Prop}, All2 R l k → ∀ i (hi : i < l.length), ∃ v, k[i]? = some v ∧ R l[i] v := by
          intro l k R h
          induction h with
          | nil => intro i hi; simp at hi
          | cons h _ ih =>
            intro i hi
            cases i with
            | zero => exact ⟨_, rfl, h⟩
            | succ i => exact ih i (by simpa using hi)
        have hus : us.length ≠ 1 := by
          intro he
          have := hlen h3
          match as, this with
          | [x], _ => exact hno x rfl
          | [], h => simp at h; omega
          | _ :: _ :: _, h => simp at h; omega
        have hval : packR us = .tuple us.toArray := by
          match us, hus with
          | [], _ => rfl
          | [_], h => exact absurd rfl h
          | _ :: _ :: _, _ => rfl
        rw [hval] at hrun
        refine ⟨_, hrun, ?_⟩
        have hO : ∀ r, r < objs.length → ofL obs r = updW (obf st.ob) wr r := fun r hr => by
          rw [hoff hw1 hr]
          have := (ho2 r (by omega)).1
          simp only [obf, this, ofL]
          simp [show r < obs.length by omega]
        refine fin m1 (fun r hr => hoff hw1 hr) List.nodup_range (by simp [ho1]) (fun i hi hi' => ?_) hrange k1.k ?_ fun r hr' => ?_
        · simp only [List.length_range] at hi
          simp only [List.getElem_range]
          rw [hoff hw1 hi]
          exact ho2 i hi'
        · refine .tup xs' _ (fun i => us.getD i undef) (by simp [hlen hr]) (fun i hi => ?_) fun i hi => ?_
          · obtain ⟨v, q1, _⟩ := hget hr i hi
            simp [q1]
          · obtain ⟨v, q1, q2, q3, q4⟩ := hget hr i hi
            simp only [List.getD_eq_getElem?_getD, q1, Option.getD_some]
            exact rep_restrict q2 q4 hrange hO
        · obtain ⟨c, hc1, hc2⟩ := AV.refs_mem' xs' r (by simpa [AV.refs] using hr')
          obtain ⟨j, hj, rfl⟩ := List.getElem_of_mem hc1
          obtain ⟨v, q1, q2, q3, q4⟩ := hget hr j hj
          rw [hO r (q4 r hc2), hoff hw1 (q4 r hc2)]
          exact q3 r hc2
end
end Go.AX
