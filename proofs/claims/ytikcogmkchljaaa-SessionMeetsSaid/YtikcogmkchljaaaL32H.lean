/-
  Plain laws on open messages: a run of messages.
-/
import Derived.Test.YtikcogmkchljaaaL32G
namespace Go.AX.Q32
open Go Go.AX

theorem receive_some (s : Session) (m : Message) (t : Int) (hm : m.Body.length ≤ 100000) : ∃ r, session_Receive s m t = some r ∧ 0 ≤ r.1.State ∧ r.1.State ≤ 3 := by
  simp only [session_Receive, tick_eq, some_bind', joinP_def]
  by_cases h1 : 0 ≤ t ∧ t ≤ 1073741824
  case neg => simp [h1]
  by_cases h3 : s.State < 0
  · simp [h1, h3]
  by_cases h4 : s.State > 3
  · simp [h1, h3, h4]
  by_cases h6 : s.State = 0
  · simp [h6, h1]
  by_cases h7 : t < s.Heard
  · simp [h1, h3, h4, h6, h7]
  simp only [h1, h3, h4, h6, h7, decide_true, decide_false, Bool.not_true, Bool.false_eq_true, if_false, beq_iff_eq, and_self]
  have nf : ∀ c, session_Notify c = some ⟨3, [toU8 c, 0]⟩ := fun c => rfl
  simp only [session_receive, session_opened, decode_eq m.Body hm, fits_eq, session_ended, nf, session_keepalive, some_bind', joinP_def, beq_iff_eq]
  have hs : s.State = 1 ∨ s.State = 2 ∨ s.State = 3 := by omega
  by_cases t1 : m.Type_ = 1
  · rcases hs with hs | hs | hs
    · rcases hd : dec m.Body with ⟨o, c⟩
      by_cases x1 : c = 0 <;> by_cases x2 : o.ASN = s.ASN <;> by_cases x3 : s.Mine.Role = -1 <;> by_cases x4 : o.Role = -1 <;> cases x5 : fits s.Mine.Role o.Role <;> simp [t1, hs, x1, x2, x3, x4, x5]
    · simp [t1, hs]
    · simp [t1, hs]
  by_cases t2 : m.Type_ = 2
  · rcases hs with hs | hs | hs <;> simp [t2, hs]
  by_cases t3 : m.Type_ = 3
  · rcases hs with hs | hs | hs <;> simp [t3, hs]
  by_cases t4 : m.Type_ = 4
  · by_cases hb : 0 < m.Body.length <;> rcases hs with hs | hs | hs <;> simp [t4, hs, hb]
  by_cases t5 : m.Type_ = 5
  · rcases hs with hs | hs | hs <;> simp [t5, hs]
  rcases hs with hs | hs | hs <;> simp [t1, t2, t3, t4, t5, hs]

def hold (s : Session) : Int := if s.Mine.Hold = 0 ∨ (s.Theirs.Hold ≠ 0 ∧ s.Theirs.Hold < s.Mine.Hold) then s.Theirs.Hold else s.Mine.Hold

theorem hold_eq (s : Session) : session_Hold s = some (hold s) := by
  simp only [session_Hold, joinP_def, hold]
  by_cases h1 : s.Mine.Hold = 0
  · simp [h1]
  · by_cases h2 : s.Theirs.Hold = 0
    · simp [h1, h2]
    · by_cases h3 : s.Theirs.Hold < s.Mine.Hold <;> simp [h1, h2, h3]

theorem refHold_eq (s : Session) : ref32_Hold s = some (hold s) := hold_eq s

theorem sTick_eq (s : Session) (t : Int) (h0 : 0 ≤ s.State) (h3 : s.State ≤ 3) : ∃ r, session_Tick s t = some r ∧ ref32_Tick s t = some r ∧ 0 ≤ r.1.State ∧ r.1.State ≤ 3 := by
  have nf : ∀ c, session_Notify c = some ⟨3, [toU8 c, 0]⟩ := fun c => rfl
  simp only [session_Tick, ref32_Tick, hold_eq, refHold_eq, session_ended, ref32_ended, ← notify_eq, nf, session_keepalive, some_bind', joinP_def]
  have hs : s.State = 0 ∨ s.State = 1 ∨ s.State = 2 ∨ s.State = 3 := by omega
  rcases hs with hs | hs | hs | hs
  · simp [hs]
  · by_cases c1 : t < s.Heard <;> by_cases c2 : i64w (t - s.Heard) ≥ 240 <;> simp [hs, c1, c2]
  · by_cases c0 : hold s = 0 <;> by_cases c1 : t < s.Heard <;> by_cases c2 : i64w (t - s.Heard) ≥ hold s <;> by_cases c3 : i64w (t - s.Sent) ≥ i64w (Int.tdiv (hold s) 3) <;> simp [hs, c0, c1, c2, c3]
  · by_cases c0 : hold s = 0 <;> by_cases c1 : t < s.Heard <;> by_cases c2 : i64w (t - s.Heard) ≥ hold s <;> by_cases c3 : i64w (t - s.Sent) ≥ i64w (Int.tdiv (hold s) 3) <;> simp [hs, c0, c1, c2, c3]

theorem ref0_ok (r : Int) : ∃ v, law32_ref0 r = some v := by
  have hg := gomod_range r (n := 6) (by decide)
  obtain ⟨x, g1, _⟩ := geti_ok ([3, 2, 1, 0, 4, (-1)] : List Int) (gomod r 6) hg.1 (by simp; omega)
  exact ⟨x, by simp only [law32_ref0, mod_eq _ _ (show (0 : Int) < 6 by decide) (show (6 : Int) ≤ 9223372036854775807 by decide), some_bind', g1]⟩

theorem message_ok {l : List Int} {d : Deck} (h : Dk l d) (s : Session) : ∃ m d', law32_message d s = some (m, d') ∧ Dk l d' ∧ m.Body.length ≤ 100000 := by
  unfold law32_message
  obtain ⟨a, d1, e1, a1, a2, k1⟩ := next_ok h 9
  obtain ⟨o, d2, e2, k2, _⟩ := open_ok k1 s.ASN
  obtain ⟨b, d3, e3, _, _, k3⟩ := next_ok k2 4
  obtain ⟨r, e4⟩ := ref0_ok s.Mine.Role
  obtain ⟨c, d5, e5, c1, c2, k5⟩ := next_ok k1 5
  obtain ⟨x, g1, g2⟩ := geti_ok ([0, 0, 0, 0, 1] : List Int) c c1 (by simp; omega)
  obtain ⟨e, d6, e6, _, _, k6⟩ := next_ok k1 8
  obtain ⟨f, d7, e7, _, _, k7⟩ := next_ok k6 9
  have hx : 0 ≤ x ∧ x ≤ 1 := by simp at g2; omega
  have hc : chk (0 ≤ x ∧ x ≤ x ∧ x ≤ 1048576) = some () := by unfold chk; rw [if_pos (by omega)]
  have hc4 : chk (0 ≤ (4 : Int) ∧ (4 : Int) ≤ 4 ∧ (4 : Int) ≤ 1048576) = some () := by unfold chk; rw [if_pos (by omega)]
  simp only [e1, e2, e3, e4, e5, e6, e7, g1, hc, hc4, some_bind', joinP_ite, refEncode_eq, beq_iff_eq]
  have hw : ∀ o : Open, (if okO o = true then (enc o, (0 : Int)) else ([], 1)).1.length ≤ 100000 := by
    intro o
    have := enc_length o
    split
    · simp only; omega
    · simp
  have h9 : a = 0 ∨ a = 1 ∨ a = 2 ∨ a = 3 ∨ a = 4 ∨ a = 5 ∨ a = 6 ∨ a = 7 ∨ a = 8 := by omega
  rcases h9 with rfl | rfl | rfl | rfl | rfl | rfl | rfl | rfl | rfl
  · simp only [if_true, BEq.rfl, decide_true]
    exact ⟨_, _, rfl, k3, hw _⟩
  · simp (config := { decide := true }) only [if_true, if_false]
    exact ⟨_, _, rfl, k3, hw _⟩
  · simp (config := { decide := true }) only [if_true, if_false]
    exact ⟨_, _, rfl, k5, by simp; omega⟩
  · simp (config := { decide := true }) only [if_true, if_false]
    exact ⟨_, _, rfl, k5, by simp; omega⟩
  · simp (config := { decide := true }) only [if_true, if_false]
    exact ⟨_, _, rfl, k5, by simp; omega⟩
  · simp (config := { decide := true }) only [if_true, if_false]
    exact ⟨_, _, rfl, k1, by simp⟩
  · simp (config := { decide := true }) only [if_true, if_false]
    exact ⟨_, _, rfl, k1, by simp⟩
  · simp (config := { decide := true }) only [if_true, if_false]
    exact ⟨_, _, rfl, k1, by simp⟩
  · simp (config := { decide := true }) only [if_true, if_false]
    exact ⟨_, _, rfl, k7, by simp⟩

theorem seqd_refl (s : Session) : Session.eqd s s = true := by simp [Session.eqd]
theorem start_state (s : Session) (t : Int) : 0 ≤ (start s t).1.State ∧ (start s t).1.State ≤ 3 := by
  unfold start
  repeat' split
  all_goals simp [noSession]

theorem sessionRuns (s : Session) (m : Message) (t : Int) (l : List Int) (hl : l.length ≤ 9223372036854775807) : law32_SessionRuns s m t l = some true := by
  unfold law32_SessionRuns
  by_cases hb : (m.Body.length : Int) > 600
  · rw [if_pos (by simpa using hb), awake_eq]; rfl
  rw [if_neg (by simpa using hb)]
  have hn : mill_New l = some ⟨l, 0⟩ := rfl
  have hbb : m.Body.length ≤ 100000 := by omega
  obtain ⟨o, d1, e1, k1, _⟩ := open_ok (l := l) (d := ⟨l, 0⟩) ⟨rfl, by simp, hl⟩ 101
  simp only [hn, e1, some_bind']
  rw [joinP_def]
  refine forR_eq (fun _ _ _ => True) (fun _ _ _ => some true) ?_ ?_ _ _ _ trivial
  case refine_2 =>
    intro next x t' i _ _ hnx
    obtain ⟨r, g1, _⟩ := receive_some x m t hbb
    have g2 : ref32_Receive x m t = some r := by rw [← receive_eq x m t hbb, g1]
    simp only [start_eq, refStart_eq, g1, g2, hold_eq, refHold_eq, seqd_refl, same_refl, some_bind', joinP_def, bne_self_eq_false, Bool.false_eq_true, if_false, Bool.not_true]
    exact hnx () trivial
  intro i _ _
  obtain ⟨o2, d2, e2, k2, _⟩ := open_ok k1 101
  simp only [e2, some_bind', refStart_eq]
  rw [joinP_def]
  refine whileR_eq (fun st => 0 ≤ st.2.1 ∧ st.2.1 ≤ 16 ∧ Dk l st.2.2.1 ∧ 0 ≤ st.2.2.2.State ∧ st.2.2.2.State ≤ 3) (fun st => (16 - st.2.1).toNat) (fun _ => some true) ?_ fuel _ ⟨by simp, by simp, k2, (start_state _ _).1, (start_state _ _).2⟩ (lt_fuel (by simp))
  rintro next ⟨tm, j, d, q⟩ ⟨hj0, hj1, kd, hq0, hq3⟩ hnx
  simp only at hj0 hj1 kd hq0 hq3 hnx ⊢
  by_cases hj : j < 16
  case neg =>
    rw [if_neg (by simpa using hj), awake_eq]; rfl
  rw [if_pos (by simpa using hj)]
  have ej : i64w (j + 1) = j + 1 := i64w_id (by omega)
  obtain ⟨a, d3, e3, a1, a2, k3⟩ := next_ok kd 6
  obtain ⟨dt, g1, _⟩ := geti_ok ([0, 1, 3, 30, 240, 70000] : List Int) a a1 (by simp; omega)
  obtain ⟨mm, d4, e4, k4, hmm⟩ := message_ok k3 q
  obtain ⟨r, r1, r0, r3⟩ := receive_some q mm (i64w (tm + dt)) hmm
  have r2 : ref32_Receive q mm (i64w (tm + dt)) = some r := by rw [← receive_eq q mm _ hmm, r1]
  obtain ⟨b, d5, e5, b1, b2, k5⟩ := next_ok k4 5
  obtain ⟨du, g2, _⟩ := geti_ok ([0, 1, 3, 30, 240] : List Int) b b1 (by simp; omega)
  simp only [e3, g1, e4, r1, r2, hold_eq, refHold_eq, seqd_refl, same_refl, some_bind', joinP_ite, joinP_id, bne_self_eq_false, Bool.false_eq_true, if_false, Bool.not_true, e5, g2, ej]
  generalize hz : (if (r.2.2 == 0) = true then r.1 else q) = z
  have hz0 : 0 ≤ z.State ∧ z.State ≤ 3 := by
    rw [← hz]
    split
    · exact ⟨r0, r3⟩
    · exact ⟨hq0, hq3⟩
  obtain ⟨w, w1, w2, w3, w4⟩ := sTick_eq z (i64w (i64w (tm + dt) + du)) hz0.1 hz0.2
  simp only [w1, w2, seqd_refl, same_refl, some_bind', joinP_ite, joinP_id, bne_self_eq_false, Bool.false_eq_true, if_false, Bool.not_true]
  obtain ⟨c, d6, e6, _, _, k6⟩ := next_ok k5 2
  have fin : ∀ (d' : Deck) (z' : Session), Dk l d' → 0 ≤ z'.State → z'.State ≤ 3 → next (i64w (i64w (tm + dt) + du), j + 1, d', z') = some true := by
    intro d' z' h1 h2 h3
    exact hnx _ ⟨by simp only; omega, by simp only; omega, h1, h2, h3⟩ (by simp only; omega)
  rw [joinP_def]
  split
  · rw [e6, some_bind']
    simp only
    rw [joinP_def]
    split
    · obtain ⟨o3, d7, e7, k7, _⟩ := open_ok k6 101
      rw [e7, some_bind']
      exact fin _ _ k7 (start_state _ _).1 (start_state _ _).2
    · exact fin _ _ k6 w3 w4
  · simp only [joinP_def, Bool.false_eq_true, if_false]
    exact fin _ _ k5 w3 w4

theorem sessionRunsW (s : Session) (m : Message) (t : Int) (l : List Int) (_ : Session.wf s) (_ : Message.wf m) (_ : I64 t) (h : l.length ≤ maxLen ∧ ∀ a ∈ l, I64 a) : law32_SessionRuns s m t l = some true := sessionRuns s m t l h.1
end Go.AX.Q32
