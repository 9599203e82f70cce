/-
  A text of the proof: see the text that is imported last.
-/
import Derived.Test.YtoankoojoeaooaaS23D
namespace Go.AX.S23
open Go Go.AX Go.Proofs
set_option maxRecDepth 100000

def Attrs.zero : Attrs := ⟨0, [], false, 0, 0, 0, 0, 0, [], [], []⟩

theorem Attrs.zero_ok : Attrs.zero.ok := ⟨by simp [zero], fun i h => by simp [zero] at h, by simp [zero], by simp [zero], by simp [zero], fun i h => by simp [zero] at h⟩

def recv (mine fr : Int) (a : Attrs) : Attrs × Int :=
  if isRole mine = false then (.zero, 1) else if isNum fr = false then (.zero, 1) else
  if a.otc = -1 then (if mine = 0 ∨ mine = 1 then (a, 0) else ({ a with otc := fr }, 0))
  else if mine = 0 ∨ mine = 1 then (.zero, 30)
  else if mine = 4 ∧ a.otc ≠ fr then (.zero, 30) else (a, 0)

def send (mine own : Int) (a : Attrs) : Attrs × Int :=
  if isRole mine = false then (.zero, 1) else if isNum own = false then (.zero, 1) else
  if a.otc = -1 then (if mine = 0 ∨ mine = 1 ∨ mine = 4 then ({ a with otc := own }, 0) else (a, 0))
  else if mine = 0 ∨ mine = 1 then (a, 0) else (.zero, 30)

theorem roleReceive_ok (mine fr : Int) (a : Attrs) (h : a.ok) : CallsOK Try.prog 17 [.i mine, .i fr, .d a.d] [] (.tup [.d (recv mine fr a).1.d, .i (recv mine fr a).2]) [] := by
  refine ok Try.f17 (by kernel_rfl) (by kernel_rfl) ⟨rfl, ?_⟩
  conv => whnf
  repeat' (first
    | refine bsel (fun hb => ?_) (fun hb => ?_) <;> conv => whnf
    | refine dOK (by kernel_rfl) ?_; conv => whnf
    | refine cOK (by kernel_rfl) ?_; conv => whnf
    | refine ⟨_, _, known_ok _, .inl rfl, ?_⟩; conv => whnf
    | refine ⟨_, _, number_ok _, .inl rfl, ?_⟩; conv => whnf
    | refine ⟨_, _, clone_ok a h, .inl rfl, ?_⟩; conv => whnf)
  all_goals first
    | (have e : recv mine fr a = (.zero, 1) := by simp_all [recv]
       exact ⟨by rw [e]; rfl, rfl⟩)
    | (have e : recv mine fr a = (.zero, 30) := by simp_all [recv]
       exact ⟨by rw [e]; rfl, rfl⟩)
    | (have e : recv mine fr a = (a, 0) := by simp_all [recv]
       exact ⟨by rw [e]; rfl, rfl⟩)
    | (have e : recv mine fr a = ({ a with otc := fr }, 0) := by simp_all [recv]
       exact ⟨by rw [e]; rfl, rfl⟩)

theorem roleSend_ok (mine x : Int) (a : Attrs) (h : a.ok) : CallsOK Try.prog 19 [.i mine, .i x, .d a.d] [] (.tup [.d (send mine x a).1.d, .i (send mine x a).2]) [] := by
  refine ok Try.f19 (by kernel_rfl) (by kernel_rfl) ⟨rfl, ?_⟩
  conv => whnf
  repeat' (first
    | refine bsel (fun hb => ?_) (fun hb => ?_) <;> conv => whnf
    | refine dOK (by kernel_rfl) ?_; conv => whnf
    | refine cOK (by kernel_rfl) ?_; conv => whnf
    | refine ⟨_, _, known_ok _, .inl rfl, ?_⟩; conv => whnf
    | refine ⟨_, _, number_ok _, .inl rfl, ?_⟩; conv => whnf
    | refine ⟨_, _, clone_ok a h, .inl rfl, ?_⟩; conv => whnf)
  all_goals first
    | (have e : send mine x a = (.zero, 1) := by simp_all [send]
       exact ⟨by rw [e]; rfl, rfl⟩)
    | (have e : send mine x a = (.zero, 30) := by simp_all [send]
       exact ⟨by rw [e]; rfl, rfl⟩)
    | (have e : send mine x a = (a, 0) := by simp_all [send]
       exact ⟨by rw [e]; rfl, rfl⟩)
    | (have e : send mine x a = ({ a with otc := x }, 0) := by simp_all [send]
       exact ⟨by rw [e]; rfl, rfl⟩)
    | (exfalso; simp_all [isRole]; omega)
    | trace_state

theorem role_cases {x : Int} (h : isRole x = true) : x = 0 ∨ x = 1 ∨ x = 2 ∨ x = 3 ∨ x = 4 := by
  simp only [isRole, decide_eq_true_eq] at h
  omega

theorem and_split {a b : Bool} (h : (!(a && b)) = false) : a = true ∧ b = true := by cases a <;> cases b <;> simp_all
theorem and_split' {a b : Bool} (h : (!(a && b)) = true) : a = false ∨ (a = true ∧ b = false) := by cases a <;> cases b <;> simp_all

theorem refReceive_ok (mine x : Int) (a : Attrs) : CallsOK Try.prog 18 [.i mine, .i x, .d a.d] [] (.tup [.d (recv mine x a).1.d, .i (recv mine x a).2]) [] := by
  refine ok Try.f18 (by kernel_rfl) (by kernel_rfl) ⟨rfl, ?_⟩
  conv => whnf
  refine ⟨_, _, bad_ok _ _, .inl rfl, ?_⟩
  conv => whnf
  refine bsel (fun hb => ?_) (fun hb => ?_)
  · conv => whnf
    have e : recv mine x a = (.zero, 1) := by
      rcases and_split' hb with h | h <;> simp [recv, h]
    exact ⟨by rw [e]; rfl, rfl⟩
  · obtain ⟨h1, h2⟩ := and_split hb
    conv => whnf
    clear hb
    repeat' (first
      | refine bsel (fun hb => ?_) (fun hb => ?_) <;> conv => whnf
      | refine dOK (by kernel_rfl) ?_; conv => whnf
      | refine cOK (by kernel_rfl) ?_; conv => whnf)
    all_goals first
      | (have e : recv mine x a = (.zero, 30) := by rcases role_cases h1 with rfl | rfl | rfl | rfl | rfl <;> simp_all [recv]
         exact ⟨by rw [e]; rfl, rfl⟩)
      | (have e : recv mine x a = (a, 0) := by rcases role_cases h1 with rfl | rfl | rfl | rfl | rfl <;> simp_all [recv]
         exact ⟨by rw [e]; rfl, rfl⟩)
      | (have e : recv mine x a = ({ a with otc := x }, 0) := by rcases role_cases h1 with rfl | rfl | rfl | rfl | rfl <;> simp_all [recv]
         exact ⟨by rw [e]; rfl, rfl⟩)
      | trace_state

theorem refSend_ok (mine x : Int) (a : Attrs) : CallsOK Try.prog 20 [.i mine, .i x, .d a.d] [] (.tup [.d (send mine x a).1.d, .i (send mine x a).2]) [] := by
  refine ok Try.f20 (by kernel_rfl) (by kernel_rfl) ⟨rfl, ?_⟩
  conv => whnf
  refine ⟨_, _, bad_ok _ _, .inl rfl, ?_⟩
  conv => whnf
  refine bsel (fun hb => ?_) (fun hb => ?_)
  · conv => whnf
    have e : send mine x a = (.zero, 1) := by
      rcases and_split' hb with h | h <;> simp [send, h]
    exact ⟨by rw [e]; rfl, rfl⟩
  · obtain ⟨h1, h2⟩ := and_split hb
    conv => whnf
    clear hb
    repeat' (first
      | refine bsel (fun hb => ?_) (fun hb => ?_) <;> conv => whnf
      | refine dOK (by kernel_rfl) ?_; conv => whnf
      | refine cOK (by kernel_rfl) ?_; conv => whnf)
    all_goals first
      | (have e : send mine x a = (.zero, 30) := by rcases role_cases h1 with rfl | rfl | rfl | rfl | rfl <;> simp_all [send]
         exact ⟨by rw [e]; rfl, rfl⟩)
      | (have e : send mine x a = (a, 0) := by rcases role_cases h1 with rfl | rfl | rfl | rfl | rfl <;> simp_all [send]
         exact ⟨by rw [e]; rfl, rfl⟩)
      | (have e : send mine x a = ({ a with otc := x }, 0) := by rcases role_cases h1 with rfl | rfl | rfl | rfl | rfl <;> simp_all [send]
         exact ⟨by rw [e]; rfl, rfl⟩)
      | trace_state

end Go.AX.S23
