/-
  A text of the proof: see the text that is imported last.
-/
import Derived.Test.YtoankoojoeaooaaS23E
namespace Go.AX.S23
open Go Go.AX Go.Proofs
set_option maxRecDepth 100000

def travelsGo (l : List Hop) : Nat → Nat → Attrs → Bool
  | 0, _, _ => true
  | n + 1, k, a => if joinedAt l k = false then false else
    if (send (l.getD k default).role (l.getD k default).fr a).2 ≠ 0 then false else
    if (recv (inv (l.getD k default).role) (l.getD k default).fr (send (l.getD k default).role (l.getD k default).fr a).1).2 ≠ 0 then false else
    travelsGo l n (k + 1) (recv (inv (l.getD k default).role) (l.getD k default).fr (send (l.getD k default).role (l.getD k default).fr a).1).1

def start : Attrs := { Attrs.zero with otc := -1 }

def travels (l : List Hop) : Bool := travelsGo l l.length 0 start

theorem send_fits {m o : Int} {a : Attrs} (h : a.ok) : (send m o a).1.ok := by
  unfold send
  repeat' split
  all_goals first | exact h | exact Attrs.zero_ok | exact ⟨h.path, h.asns, h.comm, h.large, h.other, h.data⟩

theorem recv_fits {m o : Int} {a : Attrs} (h : a.ok) : (recv m o a).1.ok := by
  unfold recv
  repeat' split
  all_goals first | exact h | exact Attrs.zero_ok | exact ⟨h.path, h.asns, h.comm, h.large, h.other, h.data⟩

def tSt (l : List Hop) (k : Nat) (a : Attrs) : ASt := (⟨[(.d (.lst 3 (l.map Hop.d))), .dead, (.b false), (.ref 3 0), .dead, .dead, .dead, .dead, .dead, (.d (.lst 3 (l.map Hop.d))), (.i (l.map Hop.d).length), (.i k), .dead, .dead, .dead, .dead, .dead, .dead, .dead, .dead, .dead, .dead, .dead, .dead, .dead, .dead, .dead, .dead, .dead, .dead, .dead, .dead, .dead, .dead, .dead, .dead, .dead, .dead, .dead, .dead, .dead, .dead, .dead, .dead], [none, none, none, some (.box [.d (.i a.origin), .d (.lst 2 (a.path.map Seg.d)), .d (.b a.v6), .d (u64 a.hi), .d (u64 a.lo), .d (.i a.med), .d (.i a.pref), .d (.i a.otc), .d (.lst 2 (a.comm.map Comm.d)), .d (.lst 3 (a.large.map Large.d)), .d (.lst 3 (a.other.map Unk.d))]), none, none, none, none, none, none, none, none, none, none, none, none, none, none, none, none, none, none, none, none, none, none, none, none, none, none, none, none, none, none, none, none, none, none, none, none, none, none, none, none]⟩ : ASt)

theorem travels_ok (l : List Hop) (hl : l.length ≤ 1000000) : CallsOK Try.prog 23 [.d (.lst 3 (l.map Hop.d))] [] (.b (travels l)) [] := by
  refine ok Try.f23 (by kernel_rfl) (by kernel_rfl) ⟨rfl, ?_⟩
  conv => whnf
  refine ⟨fun s n => ∃ (k : Nat) (a : Attrs), k + n = l.length ∧ a.ok ∧ s = tSt l k a ∧ travelsGo l n k a = travels l,
    ⟨tSt l 0 start, l.length, ?_, 0, start, by simp, ?_, rfl, rfl⟩, ?_⟩
  · refine ⟨rfl, ?_, ?_, rfl⟩
    · repeat ((conv => whnf); first | exact True.intro | refine ⟨.refl _, ?_⟩)
    · repeat ((conv => whnf); first | exact True.intro | refine ⟨⟨_, rfl, ?_⟩, ?_⟩ | refine ⟨⟨rfl, .refl _⟩, ?_⟩ | refine ⟨⟨rfl, .norm _⟩, ?_⟩)
  · exact ⟨Attrs.zero_ok.path, Attrs.zero_ok.asns, Attrs.zero_ok.comm, Attrs.zero_ok.large, Attrs.zero_ok.other, Attrs.zero_ok.data⟩
  · rintro _ n ⟨k, a, hkn, ha, rfl, hv⟩
    conv => whnf
    refine bsel (fun hb => ?_) (fun hb => ?_)
    · have hb := of_decide_eq_true hb
      have hk : k < l.length := by simpa using hb
      obtain ⟨n, rfl⟩ : ∃ m, n = m + 1 := ⟨n - 1, by omega⟩
      have hg : l.getD k default = l[k] := by simp [hk]
      simp only [travelsGo, hg] at hv
      conv => whnf
      refine ⟨⟨by omega, by simpa using hk⟩, l[k].d, by simp [hk], rfl, ?_⟩
      conv => whnf
      refine ⟨_, _, joined_ok l k hk hl, .inl rfl, ?_⟩
      conv => whnf
      refine bsel (fun hj => ?_) (fun hj => ?_)
      · conv => whnf
        have hs := roleSend_ok l[k].role l[k].fr a ha
        have ha1 := send_fits (m := l[k].role) (o := l[k].fr) ha
        generalize send l[k].role l[k].fr a = q at hv hs ha1
        obtain ⟨a1, e1⟩ := q
        try dsimp only at hv
        try dsimp only at hs
        try dsimp only at ha1
        refine ⟨_, _, hs, .inl rfl, ?_⟩
        conv => whnf
        refine bsel (fun h1 => ?_) (fun h1 => ?_)
        · conv => whnf
          refine ⟨congrArg AV.b ?_, rfl⟩
          rw [← hv]
          simp_all
        · conv => whnf
          refine dOK (by kernel_rfl) ?_
          conv => whnf
          refine ⟨_, _, roleInverse_ok _, .inl rfl, ?_⟩
          conv => whnf
          have hr := roleReceive_ok (inv l[k].role) l[k].fr a1 ha1
          have ha2 := recv_fits (m := inv l[k].role) (o := l[k].fr) ha1
          generalize recv (inv l[k].role) l[k].fr a1 = q at hv hr ha2
          obtain ⟨a2, e2⟩ := q
          try dsimp only at hv
          try dsimp only at hr
          try dsimp only at ha2
          refine ⟨_, _, hr, .inl rfl, ?_⟩
          conv => whnf
          refine cOK (by kernel_rfl) ?_
          conv => whnf
          refine bsel (fun h2 => ?_) (fun h2 => ?_)
          · conv => whnf
            refine ⟨congrArg AV.b ?_, rfl⟩
            rw [← hv]
            simp_all
          · conv => whnf
            refine i64K ⟨by omega, by omega⟩ ?_
            conv => whnf
            refine ⟨tSt l (k + 1) a2, n, by omega, ⟨rfl, ?_, ?_, rfl⟩, k + 1, a2, by omega, ha2, rfl, by rw [← hv]; simp_all⟩
            · repeat ((conv => whnf); first | exact True.intro | refine ⟨.refl _, ?_⟩)
            · repeat ((conv => whnf); first | exact True.intro | refine ⟨⟨_, rfl, ?_⟩, ?_⟩ | refine ⟨⟨rfl, .refl _⟩, ?_⟩ | refine ⟨⟨rfl, .norm _⟩, ?_⟩)
      · conv => whnf
        refine ⟨congrArg AV.b ?_, rfl⟩
        rw [← hv]
        simp_all
    · conv => whnf
      have hb := of_decide_eq_false hb
      have : n = 0 := by simp at hb; omega
      subst this
      exact ⟨congrArg AV.b hv, rfl⟩
end Go.AX.S23
