/-
  Plain laws on roles: drawn attributes; RoleDown.
-/
import Derived.Test.YtoankoojoeaooaaL23C
namespace Go.AX.Q23
open Go Go.AX

theorem clone_ok (a : Attrs) (h1 : a.Path.length ≤ 1000000) (h2 : ∀ s ∈ a.Path, s.ASNs.length ≤ 1000000) (h3 : a.Communities.length ≤ 1000000) (h4 : a.Large.length ≤ 1000000) (h5 : a.Other.length ≤ 1000000) (h6 : ∀ x ∈ a.Other, x.Data.length ≤ 1000000) :
    clone_Attrs a = some a := by
  unfold clone_Attrs
  simp only [joinP_def]
  have e2 : ∀ l : List Community, l.length ≤ 1000000 → clone_List_api_Community l = some l := fun l hl => by
    simp only [clone_List_api_Community]; rw [apnd_some rfl (by simp; omega)]; rfl
  have e3 : ∀ l : List Large, l.length ≤ 1000000 → clone_List_api_Large l = some l := fun l hl => by
    simp only [clone_List_api_Large]; rw [apnd_some rfl (by simp; omega)]; rfl
  have e4 : ∀ l : List Int, l.length ≤ 1000000 → clone_List_int l = some l := fun l hl => by
    simp only [clone_List_int]; rw [apnd_some rfl (by simp; omega)]; rfl
  have e5 : ∀ l : List UInt8, l.length ≤ 1000000 → clone_List_byte l = some l := fun l hl => by
    simp only [clone_List_byte]; rw [apnd_some rfl (by simp; omega)]; rfl
  refine (forR_eq (fun rest i (acc : List Segment) => acc ++ rest = a.Path) (fun _ _ _ => some a) ?_ ?_ a.Path 0 [] rfl).trans rfl
  · intro i acc hacc
    have hacc : acc = a.Path := by simpa using hacc
    subst hacc
    refine (forR_eq (fun rest i (acc : List Unknown) => acc ++ rest = a.Other) (fun _ _ _ => some a) ?_ ?_ a.Other 0 [] rfl).trans rfl
    · intro i acc hacc
      have hacc : acc = a.Other := by simpa using hacc
      subst hacc
      simp only [e2 _ h3, e3 _ h4, some_bind']
    · intro next x t i acc hacc hn
      have hm : x ∈ a.Other := by rw [← hacc]; simp
      have hl : acc.length + 1 ≤ 1000000 := by
        have : (acc ++ x :: t).length = a.Other.length := by rw [hacc]
        simp at this; omega
      simp only [e5 _ (h6 x hm), some_bind']
      rw [apnd_some rfl (by simp; omega)]
      simp only [some_bind']
      exact hn _ (by rw [← hacc]; simp)
  · intro next x t i acc hacc hn
    have hm : x ∈ a.Path := by rw [← hacc]; simp
    have hl : acc.length + 1 ≤ 1000000 := by
      have : (acc ++ x :: t).length = a.Path.length := by rw [hacc]
      simp at this; omega
    simp only [e4 _ (h2 x hm), some_bind']
    rw [apnd_some rfl (by simp; omega)]
    simp only [some_bind']
    exact hn _ (by rw [← hacc]; simp)

structure AtOK (a : Attrs) : Prop where
  path : a.Path.length ≤ 2
  seg : ∀ s ∈ a.Path, s.ASNs.length ≤ 10
  com : a.Communities.length ≤ 8
  lar : a.Large.length ≤ 7
  oth : a.Other.length ≤ 1
  dat : ∀ x ∈ a.Other, x.Data.length ≤ 2
  otc : a.OTC = -1 ∨ (1 ≤ a.OTC ∧ a.OTC ≤ 300)

theorem AtOK.clone {a : Attrs} (h : AtOK a) : clone_Attrs a = some a :=
  clone_ok a (by have := h.path; omega) (fun s hs => by have := h.seg s hs; omega) (by have := h.com; omega) (by have := h.lar; omega) (by have := h.oth; omega) (fun x hx => by have := h.dat x hx; omega)

theorem port_ok (n : Int) (v : Bool) : ∃ a, mill_Port n v = some a := by
  unfold mill_Port; split <;> exact ⟨_, rfl⟩

theorem communities_ok {l : List Int} {d : Deck} (h : Dk l d) : ∃ r, mill_Deck_Communities d = some r ∧ r.1.length ≤ 8 ∧ Dk l r.2 := by
  unfold mill_Deck_Communities
  obtain ⟨v1, d1, e1, _, _, k1⟩ := next_ok h (n := 65536) (by decide) (by decide)
  simp only [e1, some_bind', joinP_def]
  refine forR_ex (fun rest i (s : Deck × List Community) => Dk l s.1 ∧ s.2.length + rest.length ≤ 8) (fun (r : List Community × Deck) => r.1.length ≤ 8 ∧ Dk l r.2) ?_ ?_ _ 0 _ ⟨k1, by simp⟩
  · rintro i ⟨s1, s2⟩ ⟨h1, h2⟩
    exact ⟨_, rfl, by simpa using h2, h1⟩
  · rintro next x t i ⟨s1, s2⟩ ⟨h1, h2⟩ hn
    simp only [List.length_cons] at h2
    obtain ⟨v2, d2, e2, _, _, k2⟩ := next_ok h1 (n := 2) (by decide) (by decide)
    simp only [e2, some_bind']
    have ap : apnd (α := Community) 16 s2 [x] = some (s2 ++ [x]) := apnd_some rfl (by simp; omega)
    simp only [ap, some_bind']
    have f1 : ∀ dq, Dk l dq → ∃ r, next (dq, s2 ++ [x]) = some r ∧ r.1.length ≤ 8 ∧ Dk l r.2 := fun dq hd => hn _ ⟨hd, by simp; omega⟩
    have f2 : ∀ dq, Dk l dq → ∃ r, next (dq, s2) = some r ∧ r.1.length ≤ 8 ∧ Dk l r.2 := fun dq hd => hn _ ⟨hd, by simp; omega⟩
    split
    · split
      · split
        · exact f1 _ h1
        · exact f2 _ h1
      · split
        · exact f1 _ k2
        · exact f2 _ k2
    · split
      · exact f1 _ h1
      · exact f2 _ h1

theorem large_ok {l : List Int} {d : Deck} (h : Dk l d) : ∃ r, mill_Deck_Large d = some r ∧ r.1.length ≤ 7 ∧ Dk l r.2 := by
  unfold mill_Deck_Large
  obtain ⟨v1, d1, e1, _, _, k1⟩ := next_ok h (n := 16384) (by decide) (by decide)
  simp only [e1, some_bind', joinP_def]
  refine forR_ex (fun rest i (s : List Large) => s.length + rest.length ≤ 7) (fun (r : List Large × Deck) => r.1.length ≤ 7 ∧ Dk l r.2) ?_ ?_ _ 0 _ (by simp)
  · rintro i s h2
    exact ⟨_, rfl, by simpa using h2, k1⟩
  · rintro next x t i s h2 hn
    simp only [List.length_cons] at h2
    have ap : apnd (α := Large) 24 s [x] = some (s ++ [x]) := apnd_some rfl (by simp; omega)
    simp only [ap, some_bind']
    split
    · exact hn _ (by simp; omega)
    · exact hn _ (by omega)

theorem attrs_ok {l : List Int} {d : Deck} (h : Dk l d) (n : Int) (v : Bool) : ∃ r, mill_Deck_Attrs d n v = some r ∧ AtOK r.1 ∧ Dk l r.2 := by
  unfold mill_Deck_Attrs
  obtain ⟨v1, d1, e1, _, _, k1⟩ := next_ok h (n := 3) (by decide) (by decide)
  obtain ⟨v2, d2, e2, a2, b2, k2⟩ := next_ok k1 (n := 4) (by decide) (by decide)
  simp only [ref18_Empty, e1, e2, some_bind', joinP_def]
  refine whileR_ex (fun (s : Int × Deck × List Int) => 0 ≤ s.1 ∧ s.1 ≤ 3 ∧ Dk l s.2.1 ∧ (s.2.2.length : Int) + s.1 ≤ 4 ∧ 0 < s.2.2.length) (fun s => s.1.toNat) (fun (r : Attrs × Deck) => AtOK r.1 ∧ Dk l r.2) ?_ fuel _
    ⟨a2, by simp; omega, k2, by simp; omega, by simp⟩ (lt_fuel (by simp; omega))
  rintro next ⟨k, dk, path⟩ ⟨p1, p2, p3, p4, p5⟩ hn
  simp only at p1 p2 p3 p4 p5 hn ⊢
  by_cases c : k > 0
  · simp only [c, decide_true, if_true]
    obtain ⟨w1, q1, f1, x1, y1, g1⟩ := next_ok p3 (n := 7) (by decide) (by decide)
    obtain ⟨z, r1, _⟩ := geti_ok ([n, 101, 102, 201, 202, 203, 301] : List Int) w1 x1 (by simp; omega)
    simp only [f1, r1, some_bind']
    rw [apnd_some rfl (by simp; omega)]
    simp only [some_bind']
    rw [i64w_id (by omega)]
    exact hn _ ⟨by simp; omega, by simp; omega, g1, by simp; omega, by simp⟩ (by simp; omega)
  · simp only [c, decide_false, Bool.false_eq_true, if_false]
    obtain ⟨pt, ept⟩ := port_ok n v
    obtain ⟨pt2, ept2⟩ := port_ok 104 v
    obtain ⟨w3, d3, e3, _, _, k3⟩ := next_ok p3 (n := 3) (by decide) (by decide)
    obtain ⟨w4, d4, e4, _, _, k4⟩ := next_ok k3 (n := 3) (by decide) (by decide)
    simp only [ept, ept2, e3, e4, some_bind']
    have hl2 : path.length ≤ 4 := by omega
    have hset : ∃ y, seti path 0 103 = some y ∧ y.length = path.length := ⟨path.set 0 103, by unfold seti; rw [if_pos (by omega)]; rfl, by simp⟩
    obtain ⟨y, ey, hy⟩ := hset
    obtain ⟨g0, eg0, _⟩ := geti_ok path 0 (by decide) (by omega)
    have ap1 : apnd (α := Int) 8 path [99] = some (path ++ [99]) := apnd_some rfl (by simp; omega)
    have ap2 : apnd (α := Int) 8 path [64512, 701] = some (path ++ [64512, 701]) := apnd_some rfl (by simp; omega)
    by_cases c3 : w3 = 0 <;> simp only [c3, beq_self_eq_true, if_true, beq_iff_eq, if_false]
    all_goals
      first
      | (obtain ⟨w5, d5, e5, _, _, k5⟩ := next_ok k4 (n := 6) (by decide) (by decide)
         simp only [e5, some_bind'])
      | (obtain ⟨w5, d5, e5, _, _, k5⟩ := next_ok k3 (n := 6) (by decide) (by decide)
         simp only [e5, some_bind'])
    all_goals
      obtain ⟨w6, d6, e6, _, _, k6⟩ := next_ok k5 (n := 300) (by decide) (by decide)
      by_cases c5 : w5 = 0 <;> simp only [c5, e6, some_bind', beq_self_eq_true, if_true, beq_iff_eq, if_false]
    all_goals
      first
      | (obtain ⟨⟨cm, d7⟩, e7, h7, k7⟩ := communities_ok k6
         simp only [e7, some_bind'])
      | (obtain ⟨⟨cm, d7⟩, e7, h7, k7⟩ := communities_ok k5
         simp only [e7, some_bind'])
    all_goals
      obtain ⟨⟨lg, d8⟩, e8, h8, k8⟩ := large_ok k7
      obtain ⟨w9, d9, e9, _, _, k9⟩ := next_ok k8 (n := 24) (by decide) (by decide)
      obtain ⟨w10, d10, e10, a10, b10, k10⟩ := next_ok k9 (n := 300) (by decide) (by decide)
      obtain ⟨w11, d11, e11, _, _, k11⟩ := next_ok k9 (n := 256) (by decide) (by decide)
      simp only [e8, e9, e10, e11, some_bind', eg0, ey, ap1, ap2]
      have ew : i64w (1 + w10) = 1 + w10 := i64w_id (by omega)
      simp only [ew]
      have fin : ∀ (o : Int) (p : List Segment) (nx : Addr) (med pref otc : Int) (ot : List Unknown) (dq : Deck), p.length ≤ 2 → (∀ s ∈ p, s.ASNs.length ≤ 10) → ot.length ≤ 1 → (∀ x ∈ ot, x.Data.length ≤ 2) → (otc = -1 ∨ (1 ≤ otc ∧ otc ≤ 300)) → Dk l dq →
          ∃ r : Attrs × Deck, some ((⟨o, p, nx, med, pref, otc, cm, lg, ot⟩ : Attrs), dq) = some r ∧ AtOK r.1 ∧ Dk l r.2 := fun o p nx med pref otc ot dq q1 q2 q3 q4 q5 q6 => ⟨_, rfl, ⟨q1, q2, h7, h8, q3, q4, q5⟩, q6⟩
      all_goals
        by_cases q0 : w9 = 0
        · rw [if_pos q0]
          (refine fin _ _ _ _ _ _ _ _ ?_ ?_ ?_ ?_ ?_ ?_ <;> first
            | assumption
            | (simp only [List.length_cons, List.length_nil]; omega)
            | (intro s hs; simp only [List.mem_cons, List.not_mem_nil, or_false] at hs; rcases hs with rfl | rfl <;> simp only [List.length_append, List.length_cons, List.length_nil] <;> omega)
            | (intro s hs; simp only [List.mem_cons, List.not_mem_nil, or_false] at hs; subst hs; simp only [List.length_append, List.length_cons, List.length_nil]; omega)
            | (intro s hs; cases hs)
            | omega)
        rw [if_neg q0]
      all_goals
        by_cases q1 : w9 = 1
        · rw [if_pos q1]
          (refine fin _ _ _ _ _ _ _ _ ?_ ?_ ?_ ?_ ?_ ?_ <;> first
            | assumption
            | (simp only [List.length_cons, List.length_nil]; omega)
            | (intro s hs; simp only [List.mem_cons, List.not_mem_nil, or_false] at hs; rcases hs with rfl | rfl <;> simp only [List.length_append, List.length_cons, List.length_nil] <;> omega)
            | (intro s hs; simp only [List.mem_cons, List.not_mem_nil, or_false] at hs; subst hs; simp only [List.length_append, List.length_cons, List.length_nil]; omega)
            | (intro s hs; cases hs)
            | omega)
        rw [if_neg q1]
      all_goals
        by_cases q2 : w9 = 2
        · rw [if_pos q2]
          (refine fin _ _ _ _ _ _ _ _ ?_ ?_ ?_ ?_ ?_ ?_ <;> first
            | assumption
            | (simp only [List.length_cons, List.length_nil]; omega)
            | (intro s hs; simp only [List.mem_cons, List.not_mem_nil, or_false] at hs; rcases hs with rfl | rfl <;> simp only [List.length_append, List.length_cons, List.length_nil] <;> omega)
            | (intro s hs; simp only [List.mem_cons, List.not_mem_nil, or_false] at hs; subst hs; simp only [List.length_append, List.length_cons, List.length_nil]; omega)
            | (intro s hs; cases hs)
            | omega)
        rw [if_neg q2]
      all_goals
        by_cases q3 : w9 = 3
        · rw [if_pos q3]
          (refine fin _ _ _ _ _ _ _ _ ?_ ?_ ?_ ?_ ?_ ?_ <;> first
            | assumption
            | (simp only [List.length_cons, List.length_nil]; omega)
            | (intro s hs; simp only [List.mem_cons, List.not_mem_nil, or_false] at hs; rcases hs with rfl | rfl <;> simp only [List.length_append, List.length_cons, List.length_nil] <;> omega)
            | (intro s hs; simp only [List.mem_cons, List.not_mem_nil, or_false] at hs; subst hs; simp only [List.length_append, List.length_cons, List.length_nil]; omega)
            | (intro s hs; cases hs)
            | omega)
        rw [if_neg q3]
      all_goals
        by_cases q4 : w9 = 4
        · rw [if_pos q4]
          (refine fin _ _ _ _ _ _ _ _ ?_ ?_ ?_ ?_ ?_ ?_ <;> first
            | assumption
            | (simp only [List.length_cons, List.length_nil]; omega)
            | (intro s hs; simp only [List.mem_cons, List.not_mem_nil, or_false] at hs; rcases hs with rfl | rfl <;> simp only [List.length_append, List.length_cons, List.length_nil] <;> omega)
            | (intro s hs; simp only [List.mem_cons, List.not_mem_nil, or_false] at hs; subst hs; simp only [List.length_append, List.length_cons, List.length_nil]; omega)
            | (intro s hs; cases hs)
            | omega)
        rw [if_neg q4]
      all_goals
        by_cases q5 : w9 = 5
        · rw [if_pos q5]
          (refine fin _ _ _ _ _ _ _ _ ?_ ?_ ?_ ?_ ?_ ?_ <;> first
            | assumption
            | (simp only [List.length_cons, List.length_nil]; omega)
            | (intro s hs; simp only [List.mem_cons, List.not_mem_nil, or_false] at hs; rcases hs with rfl | rfl <;> simp only [List.length_append, List.length_cons, List.length_nil] <;> omega)
            | (intro s hs; simp only [List.mem_cons, List.not_mem_nil, or_false] at hs; subst hs; simp only [List.length_append, List.length_cons, List.length_nil]; omega)
            | (intro s hs; cases hs)
            | omega)
        rw [if_neg q5]
      all_goals
        by_cases q6 : w9 = 6
        · rw [if_pos q6]
          (refine fin _ _ _ _ _ _ _ _ ?_ ?_ ?_ ?_ ?_ ?_ <;> first
            | assumption
            | (simp only [List.length_cons, List.length_nil]; omega)
            | (intro s hs; simp only [List.mem_cons, List.not_mem_nil, or_false] at hs; rcases hs with rfl | rfl <;> simp only [List.length_append, List.length_cons, List.length_nil] <;> omega)
            | (intro s hs; simp only [List.mem_cons, List.not_mem_nil, or_false] at hs; subst hs; simp only [List.length_append, List.length_cons, List.length_nil]; omega)
            | (intro s hs; cases hs)
            | omega)
        rw [if_neg q6]
      all_goals
        by_cases q7 : w9 = 7
        · rw [if_pos q7]
          (refine fin _ _ _ _ _ _ _ _ ?_ ?_ ?_ ?_ ?_ ?_ <;> first
            | assumption
            | (simp only [List.length_cons, List.length_nil]; omega)
            | (intro s hs; simp only [List.mem_cons, List.not_mem_nil, or_false] at hs; rcases hs with rfl | rfl <;> simp only [List.length_append, List.length_cons, List.length_nil] <;> omega)
            | (intro s hs; simp only [List.mem_cons, List.not_mem_nil, or_false] at hs; subst hs; simp only [List.length_append, List.length_cons, List.length_nil]; omega)
            | (intro s hs; cases hs)
            | omega)
        rw [if_neg q7]
      all_goals
        (refine fin _ _ _ _ _ _ _ _ ?_ ?_ ?_ ?_ ?_ ?_ <;> first
          | assumption
          | (simp only [List.length_cons, List.length_nil]; omega)
          | (intro s hs; simp only [List.mem_cons, List.not_mem_nil, or_false] at hs; rcases hs with rfl | rfl <;> simp only [List.length_append, List.length_cons, List.length_nil] <;> omega)
          | (intro s hs; simp only [List.mem_cons, List.not_mem_nil, or_false] at hs; subst hs; simp only [List.length_append, List.length_cons, List.length_nil]; omega)
          | (intro s hs; cases hs)
          | omega)

theorem role_m (m : Int) : isRole (gomod m 5) = true := by
  have := gomod_range m (n := 5) (by decide)
  simp [isRole]; omega

theorem num_m (x : Int) : isNum (1 + gomod x 500) = true := by
  have := gomod_range x (n := 500) (by decide)
  simp [isNum]; omega

theorem roleDown (l : List Int) (mine fr to own : Int) (hl : l.length ≤ 9223372036854775807) : law23_RoleDown l mine fr to own = some true := by
  unfold law23_RoleDown
  obtain ⟨⟨a, d⟩, e, ha, _⟩ := attrs_ok (l := l) (d := ⟨l, 0⟩) ⟨rfl, by simp, hl⟩ 101 false
  simp only at ha
  have em := mod_eq mine 5 (by decide) (by decide)
  have et := mod_eq to 5 (by decide) (by decide)
  have ef := mod_eq fr 500 (by decide) (by decide)
  have eo := mod_eq own 500 (by decide) (by decide)
  simp only [new_eq, e, em, et, ef, eo, some_bind', joinP_def, awake_eq]
  have r1 := gomod_range fr (n := 500) (by decide)
  have r2 := gomod_range own (n := 500) (by decide)
  have w1 : i64w (1 + gomod fr 500) = 1 + gomod fr 500 := i64w_id (by omega)
  have w2 : i64w (1 + gomod own 500) = 1 + gomod own 500 := i64w_id (by omega)
  simp only [w1, w2, role_Receive, role_Send, joinP_def, known_eq, number_eq, role_m, num_m, some_bind', ha.clone]
  have hm := isRole_cases (role_m mine)
  have ho := isRole_cases (role_m to)
  generalize gomod mine 5 = m at *
  generalize gomod to 5 = n at *
  generalize hf : 1 + gomod fr 500 = f
  generalize hg : 1 + gomod own 500 = g
  have hclone : ∀ o, clone_Attrs { a with OTC := o } = some { a with OTC := o } := fun o =>
    clone_ok _ (by have := ha.path; simp; omega) (fun s hs => by have := ha.seg s hs; omega) (by have := ha.com; simp; omega) (by have := ha.lar; simp; omega) (by have := ha.oth; simp; omega) (fun x hx => by have := ha.dat x hx; omega)
  have q1 : f ≠ -1 := by omega
  have q2 : g ≠ -1 := by omega
  have hcl := ha.clone
  clear hf hg w1 w2 r1 r2 em et ef eo
  rcases hm with rfl | rfl | rfl | rfl | rfl <;> rcases ho with rfl | rfl | rfl | rfl | rfl <;> by_cases h1 : a.OTC = -1 <;> by_cases h2 : a.OTC = f <;> simp [h1, h2, q1, q2, hclone, hcl, isNum]
end Go.AX.Q23
