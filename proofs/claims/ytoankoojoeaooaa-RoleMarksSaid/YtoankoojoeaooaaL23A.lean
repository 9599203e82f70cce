/-
  Plain laws on roles: the program's answers and the reference's.
-/
import Derived.Test.YtoankoojoeaooaaAx20
import Derived.Test.YtoankoojoeaooaaQ23Sp
namespace Go.AX.Q23
open Go Go.AX

def isRole (x : Int) : Bool := decide (0 ≤ x) && decide (x < 5)
def isNum (x : Int) : Bool := decide (1 ≤ x) && decide (x ≤ 4294967295)
def inv (x : Int) : Int := if x = 0 then 3 else if x = 3 then 0 else if x = 1 then 2 else if x = 2 then 1 else if x = 4 then 4 else -1

theorem known_eq (x : Int) : role_known x = some (isRole x) := by
  simp only [role_known, joinP_def, role_inverse, some_bind', isRole, ge_iff_le]
  split <;> simp_all <;> omega

theorem number_eq (x : Int) : role_number x = some (isNum x) := by
  simp only [role_number, joinP_def, isNum, ge_iff_le]
  split <;> simp_all <;> omega

theorem isRole_cases {x : Int} (h : isRole x = true) : x = 0 ∨ x = 1 ∨ x = 2 ∨ x = 3 ∨ x = 4 := by
  simp [isRole] at h; omega

theorem inverse_eq (x : Int) : role_Inverse x = some (inv x) := by
  simp only [role_Inverse, known_eq, some_bind', role_inverse]
  cases h : isRole x
  · simp only [Bool.not_false, if_true]
    congr 1
    simp [isRole] at h
    unfold inv
    repeat' split
    all_goals omega
  · rcases isRole_cases h with rfl | rfl | rfl | rfl | rfl <;> rfl

theorem refInverse_eq (x : Int) : ref23_Inverse x = some (inv x) := by
  simp only [ref23_Inverse, inv, beq_iff_eq]
  repeat' split
  all_goals simp_all

theorem inv_bad (x : Int) : (inv x == -1) = !isRole x := by
  unfold inv isRole
  rw [Bool.eq_iff_iff]
  simp
  repeat' split
  all_goals omega

theorem bad_eq (x y : Int) : ref23_bad x y = some (!(isRole x && isNum y)) := by
  simp only [ref23_bad, joinP_def, refInverse_eq, some_bind', inv_bad]
  cases isRole x <;> simp [isNum]
  by_cases h : y < 1
  · have : ¬ 1 ≤ y := by omega
    simp [h, this]
  · have : 1 ≤ y := by omega
    simp only [h, this, if_false, decide_true, Bool.not_true, Bool.false_or, Option.some.injEq]
    rw [Bool.eq_iff_iff]; simp

theorem send_eq (m n : Int) (a : Attrs) (h : clone_Attrs a = some a) : role_Send m n a = ref23_Send m n a := by
  simp only [role_Send, ref23_Send, joinP_def, known_eq, number_eq, bad_eq, h, some_bind']
  cases isRole m <;> cases isNum n <;> simp

theorem receive_eq (m n : Int) (a : Attrs) (h : clone_Attrs a = some a) : role_Receive m n a = ref23_Receive m n a := by
  simp only [role_Receive, ref23_Receive, joinP_def, known_eq, number_eq, bad_eq, h, some_bind']
  cases hr : isRole m <;> cases isNum n <;> simp
  by_cases h1 : a.OTC = -1 <;> rcases isRole_cases hr with rfl | rfl | rfl | rfl | rfl <;> simp [h1]

/-! ways -/
def bare (o : Int) : Attrs := ⟨0, [], ⟨false, 0, 0⟩, 0, 0, o, [], [], []⟩

theorem clone_bare (o : Int) : clone_Attrs (bare o) = some (bare o) := by
  simp [clone_Attrs, bare, joinP_def, forR, clone_List_api_Community, clone_List_api_Large, apnd]

theorem refSend_bare (m n o : Int) : ref23_Send m n (bare o) = some (if isRole m && isNum n then if o ≠ -1 ∧ m ≠ 0 ∧ m ≠ 1 then (bare 0, 30) else (bare (if o = -1 ∧ (m = 0 ∨ m = 1 ∨ m = 4) then n else o), 0) else (bare 0, 1)) := by
  simp only [ref23_Send, joinP_def, bad_eq, some_bind', bare]
  cases isRole m <;> cases isNum n <;> simp
  by_cases h1 : o = -1 <;> by_cases h2 : m = 0 <;> by_cases h3 : m = 1 <;> by_cases h4 : m = 4 <;> simp [h1, h2, h3, h4]

theorem refReceive_bare (m n o : Int) : ref23_Receive m n (bare o) = some (if isRole m && isNum n then if o ≠ -1 ∧ m ≠ 2 ∧ m ≠ 3 ∧ (m ≠ 4 ∨ o ≠ n) then (bare 0, 30) else (bare (if o = -1 ∧ (m = 2 ∨ m = 3 ∨ m = 4) then n else o), 0) else (bare 0, 1)) := by
  simp only [ref23_Receive, joinP_def, bad_eq, some_bind', bare]
  cases isRole m <;> cases isNum n <;> simp
  by_cases h1 : o = -1 <;> by_cases h2 : m = 2 <;> by_cases h3 : m = 3 <;> by_cases h4 : m = 4 <;> by_cases h5 : o = n <;> simp [h1, h2, h3, h4, h5]
  all_goals (split <;> rfl)

/-- a hop by itself -/
def okH (h : Hop) : Bool := isRole h.Role && isNum h.From && isNum h.To
/-- every hop valid, each behind the one before -/
def Jr : Option Hop → List Hop → Bool
  | _, [] => true
  | p, h :: t => okH h && (match p with
    | none => true
    | some q => q.To == h.From) && Jr (some h) t
/-- no valley -/
def auto : Bool → List Hop → Bool
  | _, [] => true
  | d, h :: t => if h.Role = 4 then !d && auto true t else if h.Role = 0 ∨ h.Role = 1 then auto true t else !d && auto false t

def one (p : Option Hop) (h : Hop) : Bool := okH h && (match p with
  | none => true
  | some q => q.To == h.From)

theorem prev_at (pre : List Hop) (h : Hop) (t : List Hop) (hl : (pre ++ h :: t).length ≤ 9223372036854775807) (hp : pre ≠ []) : ∃ q, pre.getLast? = some q ∧ geti (pre ++ h :: t) (i64w ((pre.length : Int) - 1)) = some q := by
  have h1 : 0 < pre.length := by cases pre <;> simp_all
  rw [i64w_id (by simp at hl; omega)]
  have e : ((pre.length : Int) - 1) = ((pre.length - 1 : Nat) : Int) := by omega
  rw [e, geti_nat (by simp; omega)]
  refine ⟨pre[pre.length - 1], by rw [List.getLast?_eq_getElem?]; simp [h1], ?_⟩
  rw [List.getElem_append_left (by omega)]

theorem joined_at (pre : List Hop) (h : Hop) (t : List Hop) (hl : (pre ++ h :: t).length ≤ 9223372036854775807) : role_joined (pre ++ h :: t) (pre.length : Int) = some (one pre.getLast? h) := by
  simp only [role_joined, geti_at, some_bind', joinP_def, known_eq, number_eq, one, okH]
  cases isRole h.Role <;> simp
  cases isNum h.From <;> simp
  cases isNum h.To <;> simp
  by_cases hp : pre = []
  · subst hp; simp
  · obtain ⟨q, h1, h2⟩ := prev_at pre h t hl hp
    simp [hp, h1, h2]

theorem refJoined_eq (l : List Hop) (hl : l.length ≤ 9223372036854775807) : ref23_joined l = some (Jr none l) := by
  simp only [ref23_joined, joinP_def]
  refine (forR_eq (fun rest i _ => ∃ pre, l = pre ++ rest ∧ i = pre.length) (fun rest i _ => some (Jr (l.take i).getLast? rest)) ?_ ?_ l 0 () ⟨[], rfl, rfl⟩).trans (by simp)
  · intro i s _; simp [Jr]
  · rintro next h t i s ⟨pre, rfl, rfl⟩ hn
    have hn := hn () ⟨pre ++ [h], by simp, by simp⟩
    simp only [bad_eq, some_bind', hn]
    have e : (List.take (pre.length + 1) (pre ++ h :: t)).getLast? = some h := by
      rw [List.take_append]; simp
    simp only [e, Jr, okH, isNum, List.take_left']
    cases isRole h.Role <;> simp
    by_cases h1 : 1 ≤ h.From
    case neg => have : h.From < 1 := by omega
                simp [h1, this]
    by_cases h2 : h.From ≤ 4294967295
    case neg => have : 4294967295 < h.From := by omega
                simp [h2, this]
    have h1' : ¬ h.From < 1 := by omega
    have h2' : ¬ 4294967295 < h.From := by omega
    simp [h1, h2, h1', h2']
    by_cases h3 : h.To < 1
    · simp [h3]; omega
    have h3' : 1 ≤ h.To := by omega
    by_cases h4 : h.To > 4294967295
    · have : ¬ h.To ≤ 4294967295 := by omega
      simp [h3, h4, this]
    have h4' : h.To ≤ 4294967295 := by omega
    simp [h3, h4, h3', h4']
    by_cases hp : pre = []
    · subst hp; simp
    · obtain ⟨q, g1, g2⟩ := prev_at pre h t hl hp
      have : 0 < pre.length := by cases pre <;> simp_all
      simp [this, g1, g2]
      cases hq : (q.To == h.From) <;> simp_all
end Go.AX.Q23
