/-
  A text of the proof: see the text that is imported last.
-/
import Derived.Test.YtoankoojoeaooaaAx16
import Derived.Test.YtoankoojoeaooaaS23Tab
namespace Go.AX.S23
open Go Go.AX Go.Proofs
set_option maxRecDepth 100000

def keep : FuncId → Bool := fun _ => false
abbrev cx (n : Nat) : Cx := ⟨tt, n, CallsOK Try.prog, keep⟩

theorem ok {f : FuncId} (fn : Func) {args : List AV} {objs : List OB} {res : AV} {objs' : List OB}
    (hf : Try.prog.funcs[f]? = some fn) (hn : (fn.name == "runtime.NumGoroutine") = false) (h : funK (cx objs.length) fn args objs fun r o => r = res ∧ o = objs') : CallsOK Try.prog f args objs res objs' :=
  fn_ok tabOk (by kernel_rfl) keep hf hn h

def gomod (v n : Int) : Int := if v.tmod n < 0 then v.tmod n + n else v.tmod n

theorem mod_ok {v n : Int} (hv : I64 v) (hn : 0 < n ∧ n ≤ 9223372036854775807) : CallsOK Try.prog 8 [.i v, .i n] [] (.i (gomod v n)) [] := by
  refine ok Try.f8 (by kernel_rfl) (by kernel_rfl) ?_
  have h1 := Int.tmod_lt_of_pos v hn.1
  have h2 : -n < v.tmod n := by
    rw [← Int.neg_lt_neg_iff, Int.neg_neg, ← Int.neg_tmod]
    exact Int.tmod_lt_of_pos _ hn.1
  refine ⟨rfl, ?_⟩
  conv => whnf
  refine ⟨by omega, v.tmod n, rfl, ?_⟩
  conv => whnf
  refine bsel (fun hb => ?_) (fun hb => ?_)
  · conv => whnf
    have hb := of_decide_eq_true hb
    refine ⟨v.tmod n + n, i64_id rfl ⟨by omega, by omega⟩, ?_⟩
    conv => whnf
    exact ⟨by rw [gomod, if_pos hb], rfl⟩
  · conv => whnf
    have hb := of_decide_eq_false hb
    exact ⟨by rw [gomod, if_neg hb], rfl⟩

theorem gomod_range {v n : Int} (hn : 0 < n) : 0 ≤ gomod v n ∧ gomod v n < n := by
  have h1 := Int.tmod_lt_of_pos v hn
  have h2 : -n < v.tmod n := by
    rw [← Int.neg_lt_neg_iff, Int.neg_neg, ← Int.neg_tmod]
    exact Int.tmod_lt_of_pos _ hn
  unfold gomod
  split <;> omega

/-- the role on the other side -/
def inv (x : Int) : Int := if x = 0 then 3 else if x = 3 then 0 else if x = 1 then 2 else if x = 2 then 1 else if x = 4 then 4 else -1

theorem refInverse_ok (x : Int) : CallsOK Try.prog 10 [.i x] [] (.i (inv x)) [] := by
  refine ok Try.f10 (by kernel_rfl) (by kernel_rfl) ⟨rfl, ?_⟩
  conv => whnf
  repeat' (refine bsel (fun hb => ?_) (fun hb => ?_) <;> conv => whnf)
  all_goals
    refine ⟨congrArg AV.i ?_, rfl⟩
    simp only [beq_iff_eq, beq_eq_false_iff_ne, ne_eq] at *
    simp [inv, *]

theorem inverse_ok : CallsOK Try.prog 28 [] [] (.d (.agg [.i 3, .i 2, .i 1, .i 0, .i 4])) [] := by
  refine ok Try.f28 (by kernel_rfl) (by kernel_rfl) ⟨rfl, ?_⟩
  conv => whnf
  exact ⟨rfl, rfl⟩

def isRole (x : Int) : Bool := decide (0 ≤ x ∧ x < 5)

theorem known_ok (x : Int) : CallsOK Try.prog 27 [.i x] [] (.b (isRole x)) [] := by
  refine ok Try.f27 (by kernel_rfl) (by kernel_rfl) ⟨rfl, ?_⟩
  conv => whnf
  repeat' (first
    | refine bsel (fun hb => ?_) (fun hb => ?_) <;> conv => whnf
    | refine ⟨_, _, inverse_ok, .inl rfl, ?_⟩; conv => whnf)
  all_goals
    refine ⟨congrArg AV.b ?_, rfl⟩
    simp only [decide_eq_true_eq, decide_eq_false_iff_not, isRole] at *
    simp
    omega

theorem roleInverse_ok (x : Int) : CallsOK Try.prog 9 [.i x] [] (.i (inv x)) [] := by
  refine ok Try.f9 (by kernel_rfl) (by kernel_rfl) ⟨rfl, ?_⟩
  conv => whnf
  refine ⟨_, _, known_ok x, .inl rfl, ?_⟩
  conv => whnf
  refine bsel (fun hb => ?_) (fun hb => ?_)
  · conv => whnf
    refine ⟨_, _, inverse_ok, .inl rfl, ?_⟩
    conv => whnf
    simp only [isRole, decide_eq_true_eq] at hb
    refine ⟨⟨hb.1, by simpa using hb.2⟩, .i (inv x), ?_, ?_⟩
    · have : x = 0 ∨ x = 1 ∨ x = 2 ∨ x = 3 ∨ x = 4 := by omega
      rcases this with rfl | rfl | rfl | rfl | rfl <;> rfl
    · conv => whnf
      exact ⟨rfl, rfl⟩
  · conv => whnf
    refine ⟨congrArg AV.i ?_, rfl⟩
    simp only [isRole, decide_eq_false_iff_not] at hb
    unfold inv
    repeat' split
    all_goals omega

/-- the roles belong together -/
def fits (x y : Int) : Bool := isRole x && decide (y = inv x)

theorem roleFits_ok (x y : Int) : CallsOK Try.prog 11 [.i x, .i y] [] (.b (fits x y)) [] := by
  refine ok Try.f11 (by kernel_rfl) (by kernel_rfl) ⟨rfl, ?_⟩
  conv => whnf
  repeat' (first
    | refine bsel (fun hb => ?_) (fun hb => ?_) <;> conv => whnf
    | refine ⟨_, _, known_ok x, .inl rfl, ?_⟩; conv => whnf
    | refine ⟨_, _, roleInverse_ok x, .inl rfl, ?_⟩; conv => whnf)
  all_goals
    refine ⟨congrArg AV.b ?_, rfl⟩
    simp_all [fits]

theorem inv_ne (x : Int) : inv x ≠ -1 ↔ isRole x = true := by
  unfold inv isRole
  simp only [decide_eq_true_eq]
  repeat' split
  all_goals omega

theorem refFits_ok (x y : Int) : CallsOK Try.prog 12 [.i x, .i y] [] (.b (fits x y)) [] := by
  have hx := inv_ne x
  refine ok Try.f12 (by kernel_rfl) (by kernel_rfl) ⟨rfl, ?_⟩
  conv => whnf
  repeat' (first
    | refine bsel (fun hb => ?_) (fun hb => ?_) <;> conv => whnf
    | refine ⟨_, _, refInverse_ok x, .inl rfl, ?_⟩; conv => whnf)
  all_goals
    refine ⟨congrArg AV.b ?_, rfl⟩
    simp_all [fits]

def isNum (x : Int) : Bool := decide (1 ≤ x ∧ x ≤ 4294967295)

theorem number_ok (x : Int) : CallsOK Try.prog 34 [.i x] [] (.b (isNum x)) [] := by
  refine ok Try.f34 (by kernel_rfl) (by kernel_rfl) ⟨rfl, ?_⟩
  conv => whnf
  repeat' (first
    | refine bsel (fun hb => ?_) (fun hb => ?_) <;> conv => whnf)
  all_goals
    refine ⟨congrArg AV.b ?_, rfl⟩
    simp only [decide_eq_true_eq, decide_eq_false_iff_not, isNum] at *
    simp
    omega

theorem bad_ok (x y : Int) : CallsOK Try.prog 36 [.i x, .i y] [] (.b (!(isRole x && isNum y))) [] := by
  have hx := inv_ne x
  refine ok Try.f36 (by kernel_rfl) (by kernel_rfl) ⟨rfl, ?_⟩
  conv => whnf
  repeat' (first
    | refine bsel (fun hb => ?_) (fun hb => ?_) <;> conv => whnf
    | refine ⟨_, _, refInverse_ok x, .inl rfl, ?_⟩; conv => whnf)
  all_goals
    refine ⟨congrArg AV.b ?_, rfl⟩
    simp only [beq_iff_eq, beq_eq_false_iff_ne, decide_eq_true_eq, decide_eq_false_iff_not] at *
    cases hr : isRole x <;> simp_all [isNum] <;> omega
end Go.AX.S23
