/-
  A text of the proof: see the text that is imported last.
-/
import Derived.Test.YtoankoojoeaooaaS23A
namespace Go.AX.S23
open Go Go.AX Go.Proofs
set_option maxRecDepth 100000

structure Hop where
  fr : Int
  to : Int
  role : Int
  deriving Inhabited, DecidableEq

def Hop.d (h : Hop) : D := .agg [.i h.fr, .i h.to, .i h.role]

def Hop.ok (h : Hop) : Bool := isRole h.role && isNum h.fr && isNum h.to

theorem getD_map_hop (l : List Hop) (i : Nat) (h : i < l.length) : (l.map Hop.d).getD i default = (l[i]).d := by simp [h]

def joinedAt (l : List Hop) (i : Nat) : Bool := (l.getD i default).ok && (decide (i = 0) || decide ((l.getD (i - 1) default).to = (l.getD i default).fr))

theorem listInt_ok (e : List Int) (h : e.length ≤ 1000000) : CallsOK Try.prog 40 [.d (.lst 1 (e.map .i))] [] (.d (.lst 1 (e.map .i))) [] := by
  refine ok Try.f40 (by kernel_rfl) (by kernel_rfl) ⟨rfl, ?_⟩
  conv => whnf
  refine ⟨bnd (by kernel_rfl) (by simp; omega), ?_⟩
  conv => whnf
  refine ⟨rfl, ?_⟩
  conv => whnf
  exact ⟨rfl, rfl⟩

theorem joined_ok (l : List Hop) (i : Nat) (hi : i < l.length) (hl : l.length ≤ 1000000) : CallsOK Try.prog 38 [.d (.lst 3 (l.map Hop.d)), .i i] [] (.b (joinedAt l i)) [] := by
  have hg : l.getD i default = l[i] := by simp [hi]
  refine ok Try.f38 (by kernel_rfl) (by kernel_rfl) ⟨rfl, ?_⟩
  conv => whnf
  refine ⟨by simp; omega, l[i].d, by simp [hi], rfl, ?_⟩
  conv => whnf
  repeat' (first
    | refine bsel (fun hb => ?_) (fun hb => ?_) <;> conv => whnf
    | refine dOK (by kernel_rfl) ?_; conv => whnf
    | refine cOK (by kernel_rfl) ?_; conv => whnf
    | refine ⟨_, _, known_ok _, .inl rfl, ?_⟩; conv => whnf
    | refine ⟨_, _, number_ok _, .inl rfl, ?_⟩; conv => whnf)
  case refine_1.refine_1.refine_1.refine_2 =>
    have hb := ne_of_beq_false hb
    have h1 : ((i : Int) - 1).toNat = i - 1 := by omega
    refine i64K ⟨by omega, by omega⟩ ?_
    conv => whnf
    refine ⟨⟨by omega, by simp; omega⟩, (l[i - 1]).d, by rw [h1]; simp [show i - 1 < l.length by omega], rfl, ?_⟩
    conv => whnf
    refine bsel (fun hb => ?_) (fun hb => ?_) <;> conv => whnf
    all_goals
      refine cOK (by kernel_rfl) ?_
      conv => whnf
      refine ⟨congrArg AV.b ?_, rfl⟩
      have hg' : l.getD (i - 1) default = l[i - 1] := by simp [show i - 1 < l.length by omega]
      simp only [joinedAt, hg, hg', Hop.ok]
      simp_all
      try omega
  all_goals
    refine ⟨congrArg AV.b ?_, rfl⟩
    simp only [joinedAt, hg, Hop.ok]
    simp_all
end Go.AX.S23
