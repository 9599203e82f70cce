/-
  A text of the proof: see the text that is imported last.
-/
import Derived.Test.YtoankoojoeaooaaS23G
namespace Go.AX.S23
open Go Go.AX Go.Proofs
set_option maxRecDepth 100000

def pSt (a b c d k : Int) : ASt := (⟨[.dead, .dead, .dead, .dead, (.b false), .dead, .dead, .dead, .dead, .dead, .dead, .dead, .dead, .dead, .dead, .dead, .dead, (.own 17 2), (.i 2), (.i k), .dead, .dead, .dead, .dead, .dead, .dead, .dead, .dead, .dead, .dead, .dead, .dead, .dead, .dead, .dead, .dead, .dead, .dead, .dead, .dead, .dead, .dead, .dead, .dead, .dead, .dead, .dead, .dead, .dead, .dead, .dead], [none, none, none, none, none, none, none, none, none, none, none, none, none, none, none, none, none, some (.row 22 1 [.lst 1 [.i a, .i b], .lst 1 [.i c, .i d]] false), none, none, none, none, none, none, none, none, none, none, none, none, none, none, none, none, none, none, none, none, none, none, none, none, none, none, none, none, none, none, none, none, none]⟩ : ASt)

theorem rolePairs_ok (a b : Int) (ha : I64 a) (hb : I64 b) : CallsOK Try.prog 3 [.i a, .i b] [] (.b true) [] := by
  have ma := gomod_range (v := a) (n := 7) (by decide)
  have mb := gomod_range (v := b) (n := 7) (by decide)
  refine ok Try.f3 (by kernel_rfl) (by kernel_rfl) ⟨rfl, ?_⟩
  conv => whnf
  refine ⟨_, _, mod_ok ha (n := 7) (by decide), .inl rfl, ?_⟩
  conv => whnf
  refine i64K ⟨by omega, by omega⟩ ?_
  conv => whnf
  refine ⟨_, _, mod_ok hb (n := 7) (by decide), .inl rfl, ?_⟩
  conv => whnf
  refine i64K ⟨by omega, by omega⟩ ?_
  conv => whnf
  refine ⟨rfl, ?_⟩
  conv => whnf
  refine ⟨rfl, ?_⟩
  conv => whnf
  generalize gomod a 7 - 1 = c
  generalize gomod b 7 - 1 = d
  refine ⟨fun s n => (s = pSt a b c d 0 ∧ n = 2) ∨ (s = pSt a b c d 1 ∧ n = 1) ∨ (s = pSt a b c d 2 ∧ n = 0), ⟨pSt a b c d 0, 2, ?_, .inl ⟨rfl, rfl⟩⟩, ?_⟩
  · refine ⟨rfl, ?_, ?_, rfl⟩
    · repeat ((conv => whnf); first | exact True.intro | refine ⟨.refl _, ?_⟩)
    · repeat ((conv => whnf); first | exact True.intro | refine ⟨⟨_, rfl, ?_⟩, ?_⟩ | refine ⟨⟨rfl, .refl _⟩, ?_⟩ | refine ⟨.inl ⟨_, rfl, id⟩, ?_⟩)
  · rintro _ n (⟨rfl, rfl⟩ | ⟨rfl, rfl⟩ | ⟨rfl, rfl⟩)
    · have c1 := roleFits_ok a b
      have c2 := refFits_ok a b
      generalize fits a b = f at c1 c2
      cases f
      all_goals
        conv => whnf
        repeat' (first
          | refine dOK (by kernel_rfl) ?_; conv => whnf
          | refine cOK (by kernel_rfl) ?_; conv => whnf
          | refine ⟨rfl, ⟨by decide, by simp⟩, ?_⟩; conv => whnf
          | refine ⟨rfl, _, rfl, ?_⟩; conv => whnf
          | refine ⟨⟨by decide, by simp⟩, _, rfl, rfl, ?_⟩; conv => whnf
          | refine ⟨rfl, ?_⟩; conv => whnf
          | refine ⟨_, _, roleInverse_ok _, .inl rfl, ?_⟩; conv => whnf
          | refine ⟨_, _, refInverse_ok _, .inl rfl, ?_⟩; conv => whnf
          | refine ⟨_, _, c1, .inl rfl, ?_⟩; conv => whnf
          | refine ⟨_, _, c2, .inl rfl, ?_⟩; conv => whnf
          | refine bsel (fun hb => absurd hb (by simp)) (fun hb => ?_); conv => whnf
          | refine i64K (a := 0 + 1) ⟨by decide, by decide⟩ ?_; conv => whnf)
        refine ⟨pSt a b c d 1, _, by decide, ⟨rfl, ?_, ?_, rfl⟩, .inr (.inl ⟨rfl, rfl⟩)⟩
        · repeat ((conv => whnf); first | exact True.intro | refine ⟨.refl _, ?_⟩)
        · repeat ((conv => whnf); first | exact True.intro | refine ⟨⟨_, rfl, ?_⟩, ?_⟩ | refine ⟨⟨rfl, .refl _⟩, ?_⟩ | refine ⟨.inl ⟨_, rfl, id⟩, ?_⟩)
    · have c1 := roleFits_ok c d
      have c2 := refFits_ok c d
      generalize fits c d = f at c1 c2
      cases f
      all_goals
        conv => whnf
        repeat' (first
          | refine dOK (by kernel_rfl) ?_; conv => whnf
          | refine cOK (by kernel_rfl) ?_; conv => whnf
          | refine ⟨rfl, ⟨by decide, by simp⟩, ?_⟩; conv => whnf
          | refine ⟨rfl, _, rfl, ?_⟩; conv => whnf
          | refine ⟨⟨by decide, by simp⟩, _, rfl, rfl, ?_⟩; conv => whnf
          | refine ⟨rfl, ?_⟩; conv => whnf
          | refine ⟨_, _, roleInverse_ok _, .inl rfl, ?_⟩; conv => whnf
          | refine ⟨_, _, refInverse_ok _, .inl rfl, ?_⟩; conv => whnf
          | refine ⟨_, _, c1, .inl rfl, ?_⟩; conv => whnf
          | refine ⟨_, _, c2, .inl rfl, ?_⟩; conv => whnf
          | refine bsel (fun hb => absurd hb (by simp)) (fun hb => ?_); conv => whnf
          | refine i64K (a := 1 + 1) ⟨by decide, by decide⟩ ?_; conv => whnf)
        refine ⟨pSt a b c d 2, _, by decide, ⟨rfl, ?_, ?_, rfl⟩, .inr (.inr ⟨rfl, rfl⟩)⟩
        · repeat ((conv => whnf); first | exact True.intro | refine ⟨.refl _, ?_⟩)
        · repeat ((conv => whnf); first | exact True.intro | refine ⟨⟨_, rfl, ?_⟩, ?_⟩ | refine ⟨⟨rfl, .refl _⟩, ?_⟩ | refine ⟨.inl ⟨_, rfl, id⟩, ?_⟩)
    · conv => whnf
      refine ⟨_, _, awake_ok, .inl rfl, ?_⟩
      conv => whnf
      exact ⟨rfl, rfl⟩
end Go.AX.S23
