/-
  Plain laws on open messages: a silent neighbour.
-/
import Derived.Test.YtikcogmkchljaaaL32H
namespace Go.AX.Q32
open Go Go.AX

theorem recvOpen (s : Session) (o : Open) (t : Int) (hs : s.State = 1) (h0 : 0 ≤ t ∧ t ≤ 1073741824) (hh : s.Heard ≤ t) (ho : okO o = true) (ha : o.ASN = s.ASN) (hr : s.Mine.Role = -1 ∨ o.Role = -1 ∨ fits s.Mine.Role o.Role = true) :
    session_Receive s ⟨1, enc o⟩ t = some (⟨2, s.Mine, s.ASN, o, t, t⟩, [⟨4, []⟩], 0) := by
  have hl := enc_length o
  have hh' : ¬ t < s.Heard := by omega
  simp only [session_Receive, tick_eq, session_receive, session_opened, decode_eq (enc o) (by omega), dec_enc o ho, fits_eq, session_keepalive, some_bind', joinP_def]
  by_cases x3 : s.Mine.Role = -1 <;> by_cases x4 : o.Role = -1 <;> cases x5 : fits s.Mine.Role o.Role
  all_goals first | (simp [hs, h0, hh', ha, x3, x4, x5]; done) | (simp [x3, x4, x5] at hr; done)

theorem recvKA (s : Session) (t : Int) (hs : s.State = 2 ∨ s.State = 3) (h0 : 0 ≤ t ∧ t ≤ 1073741824) (hh : s.Heard ≤ t) :
    session_Receive s ⟨4, []⟩ t = some ({ s with State := 3, Heard := t }, [], 0) := by
  have hh' : ¬ t < s.Heard := by omega
  simp only [session_Receive, tick_eq, session_receive, some_bind', joinP_def]
  rcases hs with hs | hs <;> simp [hs, h0, hh']

theorem tickL (s : Session) (t : Int) (hs : s.State = 2 ∨ s.State = 3) (h1 : 0 ≤ s.Heard) (h2 : s.Heard ≤ t) (h3 : 0 ≤ s.Sent) (h4 : s.Sent ≤ t) (h5 : t ≤ 1073741824) (hH : hold s = 0 ∨ 3 ≤ hold s ∧ hold s ≤ 65535 ∧ t - s.Heard < hold s) :
    session_Tick s t = some (if hold s ≠ 0 ∧ t - s.Sent ≥ (hold s) / 3 then ({ s with Sent := t }, [⟨4, []⟩]) else (s, [])) := by
  have e1 : i64w (t - s.Heard) = t - s.Heard := i64w_id (by omega)
  have e2 : i64w (t - s.Sent) = t - s.Sent := i64w_id (by omega)
  have hh' : ¬ t < s.Heard := by omega
  simp only [session_Tick, hold_eq, session_keepalive, some_bind', joinP_def, e1, e2]
  rcases hH with hH | ⟨hH, hH2, hH3⟩
  · rcases hs with hs | hs <;> simp [hs, hH]
  · have e3 : i64w (Int.tdiv (hold s) 3) = hold s / 3 := by
      rw [Int.tdiv_eq_ediv_of_nonneg (by omega)]
      exact i64w_id (by omega)
    have n0 : hold s ≠ 0 := by omega
    have n1 : ¬ t - s.Heard ≥ hold s := by omega
    rw [e3]
    by_cases c : t - s.Sent ≥ hold s / 3 <;> rcases hs with hs | hs <;> simp [hs, n0, n1, hh', c]

theorem tickEnd (s : Session) (t : Int) (hs : s.State = 2 ∨ s.State = 3) (h1 : 0 ≤ s.Heard) (h2 : s.Heard ≤ t) (h5 : t ≤ 1073741824) (n0 : hold s ≠ 0) (hH : t - s.Heard ≥ hold s) :
    session_Tick s t = some (⟨0, s.Mine, s.ASN, noOpen, 0, 0⟩, [⟨3, [4, 0]⟩]) := by
  have e1 : i64w (t - s.Heard) = t - s.Heard := i64w_id (by omega)
  have hh' : ¬ t < s.Heard := by omega
  have nf : session_Notify 4 = some ⟨3, [4, 0]⟩ := rfl
  simp only [session_Tick, hold_eq, session_ended, some_bind', joinP_def, e1]
  rcases hs with hs | hs <;> simp [hs, n0, hh', hH, nf, noOpen]

theorem sessionSilent (l : List Int) (a : Int) (hl : l.length ≤ 9223372036854775807) : law32_SessionSilent l a = some true := by
  unfold law32_SessionSilent
  have hn : mill_New l = some ⟨l, 0⟩ := rfl
  obtain ⟨o, d1, e1, k1, x1⟩ := open_ok (l := l) (d := ⟨l, 0⟩) ⟨rfl, by simp, hl⟩ 101
  obtain ⟨p, d2, e2, k2, x2⟩ := open_ok k1 102
  have hp : okO p = true := decide_eq_true (by omega)
  have ho : okO { o with Role := -1 } = true := decide_eq_true (by simp only; omega)
  have hst : start (⟨0, { o with Role := -1 }, 102, ⟨0, 0, 0, 0, 0, false⟩, 0, 0⟩ : Session) 0 = (⟨1, { o with Role := -1 }, 102, noOpen, 0, 0⟩, [⟨1, enc { o with Role := -1 }⟩], 0) := by
    simp [start, ho]
  have r1 := recvOpen (⟨1, { o with Role := -1 }, 102, noOpen, 0, 0⟩ : Session) p 1 rfl (by decide) (by simp) hp (by simp only; omega) (Or.inl rfl)
  have r2 := recvKA (⟨2, { o with Role := -1 }, 102, p, 1, 1⟩ : Session) 2 (Or.inl rfl) (by decide) (by simp)
  simp only at r1 r2
  simp only [hn, e1, e2, refEncode_eq, hp, if_true, some_bind', start_eq, hst, r1, r2, joinP_def, bne_self_eq_false, Bool.false_eq_true, if_false, hold_eq, beq_iff_eq, awake_eq]
  generalize hq : (⟨3, { o with Role := -1 }, 102, p, 1, 2⟩ : Session) = q
  have hqs : q.State = 3 := by rw [← hq]
  have hqh : q.Heard = 2 := by rw [← hq]
  have hqn : q.Sent = 1 := by rw [← hq]
  have hqH : hold q = 0 ∨ 3 ≤ hold q ∧ hold q ≤ 65535 := by
    rw [← hq]
    unfold hold
    simp only
    split <;> omega
  by_cases h0 : hold q = 0
  · have hg := gomod_range a (n := 100000) (by decide)
    have e : i64w (2 + gomod a 100000) = 2 + gomod a 100000 := i64w_id (by omega)
    have ht := tickL q (2 + gomod a 100000) (Or.inr hqs) (by omega) (by omega) (by omega) (by omega) (by omega) (Or.inl h0)
    have hc : ¬ (hold q ≠ 0 ∧ 2 + gomod a 100000 - q.Sent ≥ hold q / 3) := fun h => h.1 h0
    rw [if_pos h0, mod_eq _ _ (by decide) (by decide), some_bind', e, ht, some_bind', if_neg hc]
    simp [hqs]
  · rw [if_neg h0, mod_eq _ _ (by omega) (by omega), some_bind']
    have hg := gomod_range a (n := hold q) (by omega)
    have hg2 := gomod_range a (n := 50) (by decide)
    have e : i64w (2 + gomod a (hold q)) = 2 + gomod a (hold q) := i64w_id (by omega)
    have e2 : i64w (i64w (2 + hold q) + gomod a 50) = 2 + hold q + gomod a 50 := by
      rw [i64w_id (x := 2 + hold q) (by omega)]; exact i64w_id (by omega)
    have ht := tickL q (2 + gomod a (hold q)) (Or.inr hqs) (by omega) (by omega) (by omega) (by omega) (by omega) (by omega)
    have ht2 := tickEnd q (2 + hold q + gomod a 50) (Or.inr hqs) (by omega) (by omega) (by omega) h0 (by omega)
    rw [e, ht, some_bind', mod_eq _ _ (by decide) (by decide), some_bind', e2, ht2, some_bind']
    generalize hw : (if hold q ≠ 0 ∧ 2 + gomod a (hold q) - q.Sent ≥ hold q / 3 then (({ q with Sent := 2 + gomod a (hold q) } : Session), [(⟨4, []⟩ : Message)]) else (q, [])) = w
    have hws : w.1.State = 3 := by
      rw [← hw]; split <;> exact hqs
    simp [hws, geti]
theorem sessionSilentW (l : List Int) (a : Int) (h : l.length ≤ maxLen ∧ ∀ a ∈ l, I64 a) (_ : I64 a) : law32_SessionSilent l a = some true := sessionSilent l a h.1
end Go.AX.Q32
