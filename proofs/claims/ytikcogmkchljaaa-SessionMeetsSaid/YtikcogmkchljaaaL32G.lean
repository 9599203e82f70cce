/-
  Plain laws on open messages: the two session machines are one.
-/
import Derived.Test.YtikcogmkchljaaaL32F
namespace Go.AX.Q32
open Go Go.AX

theorem tick_eq (t : Int) : session_tick t = some (decide (0 ≤ t ∧ t ≤ 1073741824)) := by
  simp only [session_tick, joinP_def, ge_iff_le]
  by_cases h : 0 ≤ t <;> simp [h]

def noSession : Session := ⟨0, noOpen, 0, noOpen, 0, 0⟩

def start (s : Session) (t : Int) : Session × List Message × Int :=
  if okO s.Mine = true ∧ 1 ≤ s.ASN ∧ s.ASN ≤ 4294967295 ∧ 0 ≤ t ∧ t ≤ 1073741824 then
    (if s.State = 0 then (⟨1, s.Mine, s.ASN, noOpen, t, t⟩, [⟨1, enc s.Mine⟩], 0) else (noSession, [], 31))
  else (noSession, [], 1)

theorem start_eq (s : Session) (t : Int) : session_Start s t = some (start s t) := by
  simp only [session_Start, encode_eq, some_bind', tick_eq, joinP_def, start]
  cases h : okO s.Mine
  · simp [noSession, noOpen]
  · by_cases h1 : s.ASN < 1 <;> by_cases h2 : s.ASN > 4294967295 <;> by_cases h3 : 0 ≤ t ∧ t ≤ 1073741824 <;> by_cases h4 : s.State = 0
    all_goals (simp [h1, h2, h3, h4, noSession, noOpen])
    all_goals (intros; omega)

theorem refStart_eq (s : Session) (t : Int) : ref32_Start s t = some (start s t) := by
  simp only [ref32_Start, refEncode_eq, refValid_eq, some_bind', joinP_def, start]
  cases h : okO s.Mine
  · simp [noSession, noOpen]
  · by_cases h1 : s.ASN < 1 <;> by_cases h2 : s.ASN > 4294967295 <;> by_cases h3 : t < 0 <;> by_cases h5 : t > 1073741824 <;> by_cases h4 : s.State = 0
    all_goals (simp [h1, h2, h3, h4, h5, noSession, noOpen])
    all_goals (intros; omega)

def inv (a : Int) : Int := if a = 0 then 3 else if a = 3 then 0 else if a = 1 then 2 else if a = 2 then 1 else if a = 4 then 4 else -1
def fits (a b : Int) : Bool := decide (inv a ≠ -1 ∧ b = inv a)

theorem refFits_eq (a b : Int) : ref23_Fits a b = some (fits a b) := by
  have hi : ref23_Inverse a = some (inv a) := by
    simp only [ref23_Inverse, inv, beq_iff_eq]
    repeat' split
    all_goals rfl
  simp only [ref23_Fits, hi, some_bind', joinP_def, fits]
  by_cases h : inv a = -1
  · simp [h]
  · simp [h]
    rw [Bool.eq_iff_iff]; simp

theorem fits_eq (a b : Int) : role_Fits a b = some (fits a b) := by
  have hk : role_known a = some (decide (0 ≤ a ∧ a < 5)) := by
    simp only [role_known, role_inverse, some_bind', joinP_def, ge_iff_le]
    by_cases h : 0 ≤ a <;> simp [h]
  by_cases h : 0 ≤ a ∧ a < 5
  · have h5 : a = 0 ∨ a = 1 ∨ a = 2 ∨ a = 3 ∨ a = 4 := by omega
    have hi : role_Inverse a = some (inv a) := by
      simp only [role_Inverse, hk, some_bind', h]
      rcases h5 with rfl | rfl | rfl | rfl | rfl <;> simp [role_inverse, geti, inv]
    simp only [role_Fits, hk, hi, some_bind', joinP_def, h, fits]
    rcases h5 with rfl | rfl | rfl | rfl | rfl <;> simp [inv] <;> (rw [Bool.eq_iff_iff]; simp)
  · simp only [role_Fits, hk, some_bind', joinP_def, h, fits]
    have : inv a = -1 := by
      unfold inv
      rw [if_neg (by omega), if_neg (by omega), if_neg (by omega), if_neg (by omega), if_neg (by omega)]
    simp [this]

theorem same_refl (l : List Message) : ref32_SameMessages l l = some true := by
  simp only [ref32_SameMessages, bne_self_eq_false, Bool.false_eq_true, if_false, joinP_def]
  refine forR_eq (fun rest i _ => ∃ pre, l = pre ++ rest ∧ pre.length = i) (fun _ _ _ => some true) (fun _ _ _ => rfl) ?_ l 0 () ⟨[], rfl, rfl⟩
  rintro next x t i s ⟨pre, hl, rfl⟩ hn
  have g : geti l ((pre.length : Nat) : Int) = some x := by rw [hl]; exact geti_at pre x t
  simp only [g, some_bind', bne_self_eq_false, Bool.false_eq_true, if_false, BEq.rfl, Bool.not_true]
  exact hn () ⟨pre ++ [x], by simp [hl], by simp⟩

theorem receive_eq (s : Session) (m : Message) (t : Int) (hm : m.Body.length ≤ 100000) : session_Receive s m t = ref32_Receive s m t := by
  simp only [session_Receive, ref32_Receive, tick_eq, some_bind', joinP_def]
  by_cases h1 : t < 0
  · have : ¬ (0 ≤ t ∧ t ≤ 1073741824) := by omega
    simp [h1, this]
  by_cases h2 : t > 1073741824
  · have : ¬ (0 ≤ t ∧ t ≤ 1073741824) := by omega
    simp [h2, this]
  by_cases h3 : s.State < 0
  · simp [h1, h2, h3]
  by_cases h4 : s.State > 3
  · simp [h1, h2, h3, h4]
  have h5 : 0 ≤ t ∧ t ≤ 1073741824 := by omega
  by_cases h6 : s.State = 0
  · simp [h6, h1, h2, h5]
  by_cases h7 : t < s.Heard
  · simp [h1, h2, h3, h4, h5, h6, h7]
  simp only [h1, h2, h3, h4, h5, h6, h7, decide_true, decide_false, Bool.not_true, Bool.false_eq_true, if_false, beq_iff_eq, and_self]
  simp only [session_receive, session_opened, decode_eq m.Body hm, refDecode_eq m.Body hm, fits_eq, refFits_eq, session_ended, ref32_ended, notify_eq, session_keepalive, some_bind', joinP_def, beq_iff_eq]
  have hs : s.State = 1 ∨ s.State = 2 ∨ s.State = 3 := by omega
  have nf : ∀ c, ref32_Notify c = some ⟨3, [toU8 c, 0]⟩ := fun c => rfl
  simp only [nf, some_bind']
  by_cases t1 : m.Type_ = 1
  · rcases hs with hs | hs | hs
    · rcases hd : dec m.Body with ⟨o, c⟩
      by_cases x1 : c = 0 <;> by_cases x2 : o.ASN = s.ASN <;> by_cases x3 : s.Mine.Role = -1 <;> by_cases x4 : o.Role = -1 <;> cases x5 : fits s.Mine.Role o.Role <;> simp [t1, hs, x1, x2, x3, x4, x5]
    · simp [t1, hs]
    · simp [t1, hs]
  by_cases t2 : m.Type_ = 2
  · rcases hs with hs | hs | hs <;> simp [t2, hs]
  by_cases t3 : m.Type_ = 3
  · rcases hs with hs | hs | hs <;> simp [t3, hs]
  by_cases t4 : m.Type_ = 4
  · by_cases hb : 0 < m.Body.length <;> rcases hs with hs | hs | hs <;> simp [t4, hs, hb]
  by_cases t5 : m.Type_ = 5
  · rcases hs with hs | hs | hs <;> simp [t5, hs]
  rcases hs with hs | hs | hs <;> simp [t1, t2, t3, t4, t5, hs]
end Go.AX.Q32
