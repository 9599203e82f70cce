/-
  A text of the proof: see the text that is imported last.
-/
import Derived.Test.YtoankoojoeaooaaS23F
namespace Go.AX.S23
open Go Go.AX Go.Proofs
set_option maxRecDepth 100000

def exA : List Hop := [⟨1, 2, 3⟩, ⟨2, 3, 2⟩, ⟨3, 4, 1⟩, ⟨4, 5, 0⟩]
def exB : List Hop := [⟨1, 2, 4⟩, ⟨2, 3, 4⟩]

theorem t1 : travels exA = true := by decide +kernel
theorem t2 : travels exB = false := by decide +kernel
theorem v1 : valley exA = true := by decide +kernel
theorem v2 : valley exB = false := by decide +kernel
theorem f1 : fits 1 2 = true := by decide +kernel

theorem awake_ok : CallsOK Try.prog 13 [] [] (.b true) [] := by
  have c1 := travels_ok exA (by decide)
  have c2 := travels_ok exB (by decide)
  have c3 := valley_ok exA (by decide)
  have c4 := valley_ok exB (by decide)
  have c5 := roleFits_ok 1 2
  rw [t1] at c1; rw [t2] at c2; rw [v1] at c3; rw [v2] at c4; rw [f1] at c5
  refine ok Try.f13 (by kernel_rfl) (by kernel_rfl) ⟨rfl, ?_⟩
  conv => whnf
  repeat' (first
    | refine ⟨rfl, ?_⟩; conv => whnf
    | refine ⟨_, _, c1, .inl rfl, ?_⟩; conv => whnf
    | refine ⟨_, _, c2, .inl rfl, ?_⟩; conv => whnf
    | refine ⟨_, _, c3, .inl rfl, ?_⟩; conv => whnf
    | refine ⟨_, _, c4, .inl rfl, ?_⟩; conv => whnf
    | refine ⟨_, _, c5, .inl rfl, ?_⟩; conv => whnf)
end Go.AX.S23
