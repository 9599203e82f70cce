/-
  AX, part 21: from a law's contract to the statement's frame.
-/
import Derived.Test.YtoankoojoeaooaaAx18
import Derived.Test.YtoankoojoeaooaaAx19
import Derived.WalkKit
import Derived.ProofKit
import Derived.OpenShut
import Derived.ChangeOld
import Derived.Carry
import Derived.Below
namespace Go.AX
open Go.RowKit Go.Deep Go.ChangeShapes Go.WideShapes Go.ChangeAt

section
variable {H : Type} {enc : TypeId × Value → H} {P : Program} {w : World}

theorem Reads.map' {t : Nat} {α β : Type} {cells : α → List D} {ok : α → Prop} (h : Reads enc P w t cells ok) {cells' : β → List D} {ok' : β → Prop} (g : α → β) (hc : ∀ a, ok a → cells' (g a) = cells a) (hk : ∀ a, ok a → ok' (g a)) : Reads enc P w t cells' ok' := by
  intro fuel cs x hx hw
  obtain ⟨a, h1, h2⟩ := h fuel cs x hx hw
  exact ⟨g a, hk a h1, by rw [hc a h1]; exact h2⟩

theorem wf_range {k : IntKind} {n : Int} (h : (Lit.int k n).wf = true) : k.min ≤ n ∧ n ≤ k.max := by simpa [Lit.wf] using h

theorem reads_i64 {t : Nat} (ht : P.underlying t = some (.int .i64)) : Reads enc P w t (fun n : Int => [D.i n]) I64 :=
  (reads_int ht).map' id (fun _ _ => rfl) fun a h => by
    have := wf_range h
    simpa [IntKind.min, IntKind.max, IntKind.signed, IntKind.bits, I64] using this

theorem reads_u8 {t : Nat} (ht : P.underlying t = some (.int .u8)) : Reads enc P w t (fun n : UInt8 => [D.u8 n]) (fun _ => True) :=
  (reads_int ht).map' toU8 (fun a h => by
    have := wf_range h
    have := toU8_toNat (n := a) (by simp [IntKind.min, IntKind.max, IntKind.signed, IntKind.bits] at this; omega)
    simp only [D.u8, this]) fun _ _ => trivial
theorem reads_u16 {t : Nat} (ht : P.underlying t = some (.int .u16)) : Reads enc P w t (fun n : UInt16 => [D.u16 n]) (fun _ => True) :=
  (reads_int ht).map' toU16 (fun a h => by
    have := wf_range h
    have := toU16_toNat (n := a) (by simp [IntKind.min, IntKind.max, IntKind.signed, IntKind.bits] at this; omega)
    simp only [D.u16, this]) fun _ _ => trivial
theorem reads_u32 {t : Nat} (ht : P.underlying t = some (.int .u32)) : Reads enc P w t (fun n : UInt32 => [D.u32 n]) (fun _ => True) :=
  (reads_int ht).map' toU32 (fun a h => by
    have := wf_range h
    have := toU32_toNat (n := a) (by simp [IntKind.min, IntKind.max, IntKind.signed, IntKind.bits] at this; omega)
    simp only [D.u32, this]) fun _ _ => trivial
theorem reads_u64 {t : Nat} (ht : P.underlying t = some (.int .u64)) : Reads enc P w t (fun n : UInt64 => [D.u64 n]) (fun _ => True) :=
  (reads_int ht).map' toU64 (fun a h => by
    have := wf_range h
    have := toU64_toNat (n := a) (by simp [IntKind.min, IntKind.max, IntKind.signed, IntKind.bits] at this; omega)
    simp only [D.u64, this]) fun _ _ => trivial

/-- an argument that is one cell -/
theorem open_one {t : Nat} {td : TypeDesc} (ht : P.underlying t = some td) (hk : (match td with | .int _ | .bool | .string | .slice _ => true | _ => false) = true) {α : Type} {c : α → D} {ok : α → Prop} (h : Reads enc P w t (fun a => [c a]) ok) {base : Nat} {v : Value} {d : DataW H} {p : List MemPlace}
    (hval : Value.okWide P w .any base t v) (hv : DataW.Trod enc P w 0 (fun _ => true) true t v d p) (hw : Wt P t d) : ∃ x, ok x ∧ RepA (Old w) w (fun _ => none) (ofL []) (.d (c x)) v := by
  obtain ⟨fuel, hf⟩ := hv
  obtain ⟨x, h1, h2⟩ := h fuel _ _ hf hw
  refine ⟨x, h1, .d _ _ (RepI.val (?_ : RepI w [c x] [v]))⟩
  have hna : ∀ cs, v ≠ .agg cs := by
    rintro cs rfl
    unfold Value.okWide at hval
    rw [ht] at hval
    cases td <;> simp at hk <;> simp [Cell.okWide, Cell.ok, ht] at hval
  have : v.cells.toList = [v] := by
    cases v <;> first | rfl | (rename_i cs; exact absurd rfl (hna cs))
  rwa [this] at h2

/-- an argument that is a struct -/
theorem open_struct {t : Nat} {F : Array Field} (ht : P.underlying t = some (.struct F)) {α : Type} {c : α → List D} {ok : α → Prop} (h : Reads enc P w t c ok) {base : Nat} {v : Value} {d : DataW H} {p : List MemPlace}
    (hval : Value.okWide P w .any base t v) (hv : DataW.Trod enc P w 0 (fun _ => true) true t v d p) (hw : Wt P t d) : ∃ x, ok x ∧ RepA (Old w) w (fun _ => none) (ofL []) (.d (.agg (c x))) v := by
  unfold Value.okWide at hval
  rw [ht] at hval
  obtain ⟨cs, rfl, _⟩ := hval
  obtain ⟨x, h1, h2⟩ := open_aggA h hv hw
  exact ⟨x, h1, .d _ _ h2⟩

/-- the arguments, one by one -/
inductive Opened (w : World) : List Value → List AV → Prop
  | nil : Opened w [] []
  | cons {v : Value} {x : D} {vs : List Value} {as : List AV} (h : RepA (Old w) w (fun _ => none) (ofL []) (.d x) v) (t : Opened w vs as) : Opened w (v :: vs) (.d x :: as)

theorem Opened.get {vs : List Value} {as : List AV} (h : Opened w vs as) : vs.length = as.length ∧ ∀ i (hi : i < as.length), RepA (Old w) w (fun _ => none) (ofL []) as[i] (vs.getD i undef) ∧ Closed (ofL []) as[i] := by
  induction h with
  | nil => exact ⟨rfl, fun i hi => by simp at hi⟩
  | cons h t ih =>
    refine ⟨by simp [ih.1], fun i hi => ?_⟩
    cases i with
    | zero => exact ⟨h, closed_d _ _⟩
    | succ i => simpa using ih.2 i (by simpa using hi)

theorem trodAll_stays (hl : laidOutB P = true) {W W' : World} (hb : Below W.heap.size W W') : ∀ {ts : List TypeId} {vs : List Value} {ds : List (DataW H)} {ps : List MemPlace},
    (ts.all fun t => P.readableRec t && decide (t < P.types.size)) = true → DataW.TrodAll enc P W 0 (fun _ => true) true ts vs ds ps → DataW.TrodAll enc P W' 0 (fun b => decide (b < W.heap.size)) true ts vs ds ps
  | [], [], [], _, _, h => h
  | t :: ts, v :: vs, d :: ds, ps, hr, h => by
    have hlt := h.lt
    obtain ⟨p, q, h1, h2, rfl⟩ := h
    simp only [List.all_cons, Bool.and_eq_true, decide_eq_true_eq] at hr
    exact ⟨p, q, Below.trod hl hr.1.1 hr.1.2 h1 hb fun x hx => hlt x (by simp [hx]), trodAll_stays hl hb hr.2 h2, rfl⟩
  | [], [], _ :: _, _, _, h => h.elim
  | [], _ :: _, _, _, _, h => h.elim
  | _ :: _, [], _, _, _, h => h.elim
  | _ :: _, _ :: _, [], _, _, h => h.elim

theorem trodAll_length : ∀ {ts : List TypeId} {vs : List Value} {ds : List (DataW H)} {ps : List MemPlace} {sp : Nat → Bool}, DataW.TrodAll enc P w 0 sp true ts vs ds ps → ds.length = ts.length ∧ vs.length = ts.length
  | [], [], [], _, _, _ => ⟨rfl, rfl⟩
  | t :: ts, v :: vs, d :: ds, _, _, h => by
    obtain ⟨p, q, _, h2, _⟩ := h
    obtain ⟨a, b⟩ := trodAll_length h2
    exact ⟨by simp [a], by simp [b]⟩
  | [], [], _ :: _, _, _, h => h.elim
  | [], _ :: _, _, _, _, h => h.elim
  | _ :: _, [], _, _, _, h => h.elim
  | _ :: _, _ :: _, [], _, _, h => h.elim

/-- a law that is true whatever comes in -/
theorem frame_contract {C : Checked} {f : FuncId} {fn : Func} {s : ChangeSpec} {b : TypeId} (hl : laidOutB C.prog = true) (hvars : s.vars = []) (hfn : ∀ ds : List (DataW H), ds.length = fn.params.size → s.fn H (ds ++ []) = { results := [.lit (.bool true)], args := ds })
    (hres : fn.resultTypes = #[b]) (hb : C.prog.underlying b = some .bool) (hread : (fn.params.toList.all fun t => C.prog.readableRec t && decide (t < C.prog.types.size)) = true)
    (law : ∀ (W : World) (base : Nat) (args : Array Value) (ds : List (DataW H)) (p : List MemPlace), (∀ (j : Nat) t v, fn.params[j]? = some t → args[j]? = some v → Value.okWide C.prog W .any base t v) →
      DataW.TrodAll enc C.prog W 0 (fun _ => true) true fn.params.toList args.toList ds p → (∀ (j : Nat) t d, fn.params.toList[j]? = some t → ds[j]? = some d → Wt C.prog t d) → ∃ as, Opened W args.toList as ∧ CallsOK C.prog f as [] (.b true) []) :
    ∀ (W : World) (base : Nat) (args : Array Value) (ds gs : List (DataW H)) (before : List MemPlace),
      (∀ (j : Nat) t v, fn.params[j]? = some t → args[j]? = some v → Value.okWide C.prog W .any base t v) →
      DataW.Whole enc C.prog fn.params.toList s.vars false W args.toList ds gs before →
      (DataW.weightsEach C.prog (fn.params.toList ++ s.plain.varTypes C.prog) (ds ++ gs)).all (· ≤ reachBytes) = true →
      Calls C.prog f args W fun e W' => ∃ v, e = .returned v ∧ s.post enc C.prog fn false true false false W args v W' := by
  intro W base args ds gs before hval hW hwt
  have hW' := hW
  obtain ⟨p, q, hA, hV, rfl, hfz, hnd⟩ := hW
  rw [hvars] at hV
  obtain ⟨rfl, rfl⟩ := trodVars_none hV
  have hd : ds.length = fn.params.size := by simpa using (trodAll_length hA).1
  obtain ⟨as, h1, h2⟩ := law W base args ds p hval hA fun j t d ht hd' => List.all_eq_true.2 fun n hn => List.all_eq_true.1 hwt n (DataW.weights_mem_each (j := j) (by
    rw [List.getElem?_append_left (List.getElem?_eq_some_iff.1 ht).1]; exact ht) (by rw [List.getElem?_append_left (List.getElem?_eq_some_iff.1 hd').1]; exact hd') n hn)
  obtain ⟨o1, o2⟩ := h1.get
  refine (walk_true h2 W args (by simpa using o1) fun i hi => by simpa [← Array.getElem?_toList] using o2 i hi).mono fun e W' ⟨he, bel⟩ => ?_
  subst he
  refine ⟨_, rfl, ds, [], p ++ [], [], p, [], hW', ?_, ?_, ?_, bel.frame _, fun h => by cases h⟩
  · rw [hfn ds hd, hres]
    exact trodAll_mk1 (shut_bool hb _)
  · rw [hfn ds hd]
    exact trodAll_stays hl bel hread hA
  · rw [hfn ds hd, hvars]
    rfl
end
end Go.AX
