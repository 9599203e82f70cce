/-
  A text of the proof: see the text that is imported last.
-/
import Derived.Test.YtoankoojoeaooaaS23B
namespace Go.AX.S23
open Go Go.AX Go.Proofs
set_option maxRecDepth 100000

def valleyGo (l : List Hop) : Nat → Nat → Bool → Bool
  | 0, _, _ => true
  | n + 1, k, down => if joinedAt l k = false then false else
    if (l.getD k default).role = 4 then (if down then false else valleyGo l n (k + 1) true)
    else if (l.getD k default).role = 0 then valleyGo l n (k + 1) true
    else if (l.getD k default).role = 1 then valleyGo l n (k + 1) true
    else if down then false else valleyGo l n (k + 1) false

def valley (l : List Hop) : Bool := valleyGo l l.length 0 false

def vSt (l : List Hop) (k : Nat) (down : Bool) : ASt := (⟨[(.d (.lst 3 (l.map Hop.d))), .dead, (.b false), (.b down), .dead, .dead, (.d (.lst 3 (l.map Hop.d))), (.i (l.map Hop.d).length), (.i k), .dead, .dead, .dead, .dead, .dead, .dead, .dead, .dead, .dead, .dead, .dead, .dead, .dead, .dead, .dead, .dead, .dead, .dead], [none, none, none, none, none, none, none, none, none, none, none, none, none, none, none, none, none, none, none, none, none, none, none, none, none, none, none]⟩ : ASt)

theorem valley_ok (l : List Hop) (hl : l.length ≤ 1000000) : CallsOK Try.prog 25 [.d (.lst 3 (l.map Hop.d))] [] (.b (valley l)) [] := by
  refine ok Try.f25 (by kernel_rfl) (by kernel_rfl) ⟨rfl, ?_⟩
  conv => whnf
  refine ⟨fun s n => ∃ (k : Nat) (down : Bool), k + n = l.length ∧ s = vSt l k down ∧ valleyGo l n k down = valley l,
    ⟨vSt l 0 false, l.length, ?_, 0, false, by simp, rfl, rfl⟩, ?_⟩
  · refine ⟨rfl, ?_, ?_, rfl⟩
    · repeat ((conv => whnf); first | exact True.intro | refine ⟨.refl _, ?_⟩)
    · repeat ((conv => whnf); first | exact True.intro | refine ⟨.refl _, ?_⟩)
  · rintro _ n ⟨k, down, hkn, rfl, hv⟩
    conv => whnf
    refine bsel (fun hb => ?_) (fun hb => ?_)
    · have hb := of_decide_eq_true hb
      have hk : k < l.length := by simpa using hb
      obtain ⟨n, rfl⟩ : ∃ m, n = m + 1 := ⟨n - 1, by omega⟩
      have hg : l.getD k default = l[k] := by simp [hk]
      simp only [valleyGo, hg] at hv
      conv => whnf
      refine ⟨⟨by omega, by simpa using hk⟩, l[k].d, by simp [hk], rfl, ?_⟩
      conv => whnf
      refine ⟨_, _, joined_ok l k hk hl, .inl rfl, ?_⟩
      conv => whnf
      cases down
      all_goals
        repeat' (refine bsel (fun hb => ?_) (fun hb => ?_) <;> conv => whnf)
      all_goals first
        | (refine ⟨congrArg AV.b ?_, rfl⟩
           simp_all)
        | (refine i64K ⟨by omega, by omega⟩ ?_
           conv => whnf
           first
             | (refine ⟨vSt l (k + 1) false, n, by omega, ⟨rfl, ?_, ?_, rfl⟩, k + 1, false, by omega, rfl, by simp_all⟩
                · repeat ((conv => whnf); first | exact True.intro | refine ⟨.refl _, ?_⟩)
                · repeat ((conv => whnf); first | exact True.intro | refine ⟨.refl _, ?_⟩))
             | (refine ⟨vSt l (k + 1) true, n, by omega, ⟨rfl, ?_, ?_, rfl⟩, k + 1, true, by omega, rfl, by simp_all⟩
                · repeat ((conv => whnf); first | exact True.intro | refine ⟨.refl _, ?_⟩)
                · repeat ((conv => whnf); first | exact True.intro | refine ⟨.refl _, ?_⟩)))
    · conv => whnf
      have hb := of_decide_eq_false hb
      have : n = 0 := by simp at hb; omega
      subst this
      exact ⟨congrArg AV.b hv, rfl⟩

end Go.AX.S23
