/-
  A text of the proof: see the text that is imported last.
-/
import Derived.Test.YtoankoojoeaooaaS23C
namespace Go.AX.S23
open Go Go.AX Go.Proofs
set_option maxRecDepth 100000

structure Seg where
  set : Bool
  asns : List Int
def Seg.d (s : Seg) : D := .agg [.b s.set, .lst 1 (s.asns.map .i)]
structure Unk where
  flags : Int
  typ : Int
  data : List Int
def u8 (x : Int) : D := .val (.int .u8 x)
def u64 (x : Int) : D := .val (.int .u64 x)
def Unk.d (s : Unk) : D := .agg [.i s.flags, .i s.typ, .lst 1 (s.data.map u8)]
structure Comm where
  a : Int
  b : Int
def Comm.d (c : Comm) : D := .agg [.i c.a, .i c.b]
structure Large where
  a : Int
  b : Int
  c : Int
def Large.d (c : Large) : D := .agg [.i c.a, .i c.b, .i c.c]

structure Attrs where
  origin : Int
  path : List Seg
  v6 : Bool
  hi : Int
  lo : Int
  med : Int
  pref : Int
  otc : Int
  comm : List Comm
  large : List Large
  other : List Unk
def Attrs.d (a : Attrs) : D := .agg [.i a.origin, .lst 2 (a.path.map Seg.d), .b a.v6, u64 a.hi, u64 a.lo, .i a.med, .i a.pref, .i a.otc, .lst 2 (a.comm.map Comm.d), .lst 3 (a.large.map Large.d), .lst 3 (a.other.map Unk.d)]

/-- not too long -/
structure Attrs.ok (a : Attrs) : Prop where
  path : a.path.length ≤ 1000000
  asns : ∀ i (h : i < a.path.length), a.path[i].asns.length ≤ 1000000
  comm : a.comm.length ≤ 1000000
  large : a.large.length ≤ 1000000
  other : a.other.length ≤ 1000000
  data : ∀ i (h : i < a.other.length), a.other[i].data.length ≤ 1000000

theorem listByte_ok (e : List Int) (h : e.length ≤ 1000000) : CallsOK Try.prog 41 [.d (.lst 1 (e.map u8))] [] (.d (.lst 1 (e.map u8))) [] := by
  refine ok Try.f41 (by kernel_rfl) (by kernel_rfl) ⟨rfl, ?_⟩
  conv => whnf
  refine ⟨bnd (by kernel_rfl) (by simp; omega), ?_⟩
  conv => whnf
  refine ⟨rfl, ?_⟩
  conv => whnf
  exact ⟨rfl, rfl⟩

theorem listComm_ok (e : List Comm) (h : e.length ≤ 1000000) : CallsOK Try.prog 42 [.d (.lst 2 (e.map Comm.d))] [] (.d (.lst 2 (e.map Comm.d))) [] := by
  refine ok Try.f42 (by kernel_rfl) (by kernel_rfl) ⟨rfl, ?_⟩
  conv => whnf
  refine ⟨bnd (by kernel_rfl) (by simp; omega), ?_⟩
  conv => whnf
  refine ⟨rfl, ?_⟩
  conv => whnf
  exact ⟨rfl, rfl⟩

theorem listLarge_ok (e : List Large) (h : e.length ≤ 1000000) : CallsOK Try.prog 43 [.d (.lst 3 (e.map Large.d))] [] (.d (.lst 3 (e.map Large.d))) [] := by
  refine ok Try.f43 (by kernel_rfl) (by kernel_rfl) ⟨rfl, ?_⟩
  conv => whnf
  refine ⟨bnd (by kernel_rfl) (by simp; omega), ?_⟩
  conv => whnf
  refine ⟨rfl, ?_⟩
  conv => whnf
  exact ⟨rfl, rfl⟩

def cSt1 (a : Attrs) (k : Nat) : ASt := (⟨[.dead, (.ref 1 0), (.ref 2 0), .dead, (.d (.lst 3 (a.other.map Unk.d))), .dead, .dead, .dead, .dead, .dead, .dead, .dead, .dead, .dead, .dead, (.d (.lst 2 (a.path.map Seg.d))), (.i (a.path.map Seg.d).length), (.i k), .dead, .dead, .dead, .dead, .dead, .dead, .dead, .dead, .dead, .dead, .dead, .dead, .dead, .dead, .dead, .dead, .dead, .dead, .dead, .dead, .dead, .dead, .dead, .dead, .dead, .dead, .dead, .dead, .dead, .dead, .dead, .dead, .dead, .dead, .dead, .dead, .dead, .dead, .dead, .dead, .dead, .dead, .dead, .dead], [none, some (.box [.d (.i a.origin), .own 30 ((a.path.take k).map Seg.d).length, .d (.b a.v6), .d (u64 a.hi), .d (u64 a.lo), .d (.i a.med), .d (.i a.pref), .d (.i a.otc), .d (.lst 2 (a.comm.map Comm.d)), .d (.lst 3 (a.large.map Large.d)), .d (.nil 3)]), some (.box ((tt.get 36).zero.map .d)), none, none, none, none, none, none, none, none, none, none, none, none, none, none, none, none, none, none, none, none, none, none, none, none, none, none, none, some (.row 59 2 ((a.path.take k).map Seg.d) false), none, none, none, none, none, none, none, none, none, none, none, none, none, none, none, none, none, none, none, none, none, none, none, none, none, none, none, none, none, none, none]⟩ : ASt)

def cSt2 (a : Attrs) (k : Nat) : ASt := (⟨[.dead, (.ref 1 0), (.ref 2 0), .dead, .dead, .dead, .dead, .dead, .dead, .dead, .dead, .dead, .dead, .dead, .dead, .dead, .dead, .dead, .dead, .dead, .dead, .dead, .dead, .dead, .dead, .dead, .dead, .dead, .dead, .dead, .dead, .dead, .dead, (.d (.lst 3 (a.other.map Unk.d))), (.i (a.other.map Unk.d).length), (.i k), .dead, .dead, .dead, .dead, .dead, .dead, .dead, .dead, .dead, .dead, .dead, .dead, .dead, .dead, .dead, .dead, .dead, .dead, .dead, .dead, .dead, .dead, .dead, .dead, .dead, .dead], [none, some (.box [.d (.i a.origin), .own 30 ((a.path.take a.path.length).map Seg.d).length, .d (.b a.v6), .d (u64 a.hi), .d (u64 a.lo), .d (.i a.med), .d (.i a.pref), .d (.i a.otc), .d (.lst 2 (a.comm.map Comm.d)), .d (.lst 3 (a.large.map Large.d)), .own 50 ((a.other.take k).map Unk.d).length]), some (.box ((tt.get 36).zero.map .d)), none, none, none, none, none, none, none, none, none, none, none, none, none, none, none, none, none, none, none, none, none, none, none, none, none, none, none, some (.row 59 2 ((a.path.take a.path.length).map Seg.d) false), none, none, none, none, none, none, none, none, none, none, none, none, none, none, none, none, none, none, none, some (.row 62 3 ((a.other.take k).map Unk.d) false), none, none, none, none, none, none, none, none, none, none, none]⟩ : ASt)

theorem clone_ok (a : Attrs) (h : a.ok) : CallsOK Try.prog 35 [.d a.d] [] (.d a.d) [] := by
  refine ok Try.f35 (by kernel_rfl) (by kernel_rfl) ⟨rfl, ?_⟩
  conv => whnf
  refine dOK (by kernel_rfl) ?_
  conv => whnf
  refine cOK (by kernel_rfl) ?_
  conv => whnf
  refine ⟨fun s n => ∃ k : Nat, k + n = a.path.length ∧ s = cSt1 a k, ⟨cSt1 a 0, a.path.length, ?_, 0, by simp, rfl⟩, ?_⟩
  · refine ⟨rfl, ?_, ?_, rfl⟩
    · repeat ((conv => whnf); first | exact True.intro | refine ⟨.refl _, ?_⟩)
    · repeat ((conv => whnf); first | exact True.intro | refine ⟨⟨_, rfl, ?_⟩, ?_⟩ | refine ⟨⟨rfl, .refl _⟩, ?_⟩ | refine ⟨⟨rfl, .fresh _ _ _ rfl rfl⟩, ?_⟩ | refine ⟨.inl ⟨_, rfl, id⟩, ?_⟩ | refine ⟨.inr ⟨rfl, rfl, by decide⟩, ?_⟩)
  · rintro _ n ⟨k, hkn, rfl⟩
    conv => whnf
    refine bsel (fun hb => ?_) (fun hb => ?_)
    · have hb := of_decide_eq_true hb
      have hk : k < a.path.length := by simpa using hb
      conv => whnf
      refine ⟨⟨by omega, by simpa using hk⟩, (a.path[k]).d, by simp [hk], rfl, ?_⟩
      conv => whnf
      refine dOK (by kernel_rfl) ?_
      conv => whnf
      refine ⟨_, _, listInt_ok _ (h.asns k hk), .inl rfl, ?_⟩
      conv => whnf
      refine ⟨rfl, ?_⟩
      conv => whnf
      refine ⟨by simp, bnd (by kernel_rfl) (by have := h.path; simp; omega), (a.path.take (k + 1)).map Seg.d, ?_, ?_⟩
      · rw [List.take_succ_eq_append_getElem hk, List.map_append]; rfl
      conv => whnf
      refine cOK (by kernel_rfl) ?_
      conv => whnf
      refine i64K ⟨by omega, by have := h.path; omega⟩ ?_
      conv => whnf
      refine ⟨cSt1 a (k + 1), n - 1, by omega, ⟨rfl, ?_, ?_, rfl⟩, k + 1, by omega, rfl⟩
      · repeat ((conv => whnf); first | exact True.intro | refine ⟨.refl _, ?_⟩)
      · repeat ((conv => whnf); first | exact True.intro | refine ⟨⟨_, rfl, ?_⟩, ?_⟩ | refine ⟨⟨rfl, .refl _⟩, ?_⟩ | refine ⟨⟨rfl, .fresh _ _ _ rfl rfl⟩, ?_⟩ | refine ⟨.inl ⟨_, rfl, id⟩, ?_⟩ | refine ⟨.inr ⟨rfl, rfl, by decide⟩, ?_⟩)
    · have hb := of_decide_eq_false hb
      obtain rfl : n = 0 := by simp at hb; omega
      obtain rfl : k = a.path.length := by omega
      conv => whnf
      refine ⟨fun s n => ∃ k : Nat, k + n = a.other.length ∧ s = cSt2 a k, ⟨cSt2 a 0, a.other.length, ?_, 0, by simp, rfl⟩, ?_⟩
      · refine ⟨rfl, ?_, ?_, rfl⟩
        · repeat ((conv => whnf); first | exact True.intro | refine ⟨.refl _, ?_⟩)
        · repeat ((conv => whnf); first | exact True.intro | refine ⟨⟨_, rfl, ?_⟩, ?_⟩ | refine ⟨⟨rfl, .refl _⟩, ?_⟩ | refine ⟨⟨rfl, .fresh _ _ _ rfl rfl⟩, ?_⟩ | refine ⟨.inl ⟨_, rfl, id⟩, ?_⟩ | refine ⟨.inr ⟨rfl, rfl, by decide⟩, ?_⟩)
      · rintro _ n ⟨k, hkn, rfl⟩
        conv => whnf
        refine bsel (fun hb => ?_) (fun hb => ?_)
        · have hb := of_decide_eq_true hb
          have hk : k < a.other.length := by simpa using hb
          conv => whnf
          refine ⟨⟨by omega, by simpa using hk⟩, (a.other[k]).d, by simp [hk], rfl, ?_⟩
          conv => whnf
          refine dOK (by kernel_rfl) ?_
          conv => whnf
          refine ⟨_, _, listByte_ok _ (h.data k hk), .inl rfl, ?_⟩
          conv => whnf
          refine ⟨rfl, ?_⟩
          conv => whnf
          refine ⟨by simp, bnd (by kernel_rfl) (by have := h.other; simp; omega), (a.other.take (k + 1)).map Unk.d, ?_, ?_⟩
          · rw [List.take_succ_eq_append_getElem hk, List.map_append]; rfl
          conv => whnf
          refine cOK (by kernel_rfl) ?_
          conv => whnf
          refine i64K ⟨by omega, by have := h.other; omega⟩ ?_
          conv => whnf
          refine ⟨cSt2 a (k + 1), n - 1, by omega, ⟨rfl, ?_, ?_, rfl⟩, k + 1, by omega, rfl⟩
          · repeat ((conv => whnf); first | exact True.intro | refine ⟨.refl _, ?_⟩)
          · repeat ((conv => whnf); first | exact True.intro | refine ⟨⟨_, rfl, ?_⟩, ?_⟩ | refine ⟨⟨rfl, .refl _⟩, ?_⟩ | refine ⟨⟨rfl, .fresh _ _ _ rfl rfl⟩, ?_⟩ | refine ⟨.inl ⟨_, rfl, id⟩, ?_⟩ | refine ⟨.inr ⟨rfl, rfl, by decide⟩, ?_⟩)
        · have hb := of_decide_eq_false hb
          obtain rfl : n = 0 := by simp at hb; omega
          obtain rfl : k = a.other.length := by omega
          conv => whnf
          refine dOK (by kernel_rfl) ?_
          conv => whnf
          refine ⟨_, _, listComm_ok _ h.comm, .inl rfl, ?_⟩
          conv => whnf
          refine ⟨_, _, listLarge_ok _ h.large, .inl rfl, ?_⟩
          conv => whnf
          refine cOK (by kernel_rfl) ?_
          conv => whnf
          refine ⟨rfl, ?_⟩
          conv => whnf
          refine ⟨rfl, ?_⟩
          conv => whnf
          refine ⟨congrArg AV.d ?_, rfl⟩
          simp only [Attrs.d, List.take_length]
          rfl
end Go.AX.S23
