/-
  Plain laws on roles: RoleMarks.
-/
import Derived.Test.YtoankoojoeaooaaL23D
namespace Go.AX.Q23
open Go Go.AX

theorem clone_big (a : Attrs) (hw : Attrs.wf a) : clone_Attrs a = some a := by
  obtain ⟨_, ⟨_, hp, hseg⟩, _, _, _, _, ⟨_, hc, _⟩, ⟨_, hl, _⟩, ⟨_, ho, hoth⟩, _⟩ := hw
  have hR : reachBytes = 140737488351232 := rfl
  rw [hR] at hp hc hl ho
  unfold clone_Attrs
  simp only [joinP_def]
  have e2 : clone_List_api_Community a.Communities = some a.Communities := by
    simp only [clone_List_api_Community]; rw [apnd_big (by decide) (by simp; omega)]; rfl
  have e3 : clone_List_api_Large a.Large = some a.Large := by
    simp only [clone_List_api_Large]; rw [apnd_big (by decide) (by simp; omega)]; rfl
  have e4 : ∀ s ∈ a.Path, clone_List_int s.ASNs = some s.ASNs := fun s hs => by
    obtain ⟨_, ⟨_, h, _⟩, _⟩ := hseg s hs
    rw [hR] at h
    simp only [clone_List_int]; rw [apnd_big (by decide) (by simp; omega)]; rfl
  have e5 : ∀ x ∈ a.Other, clone_List_byte x.Data = some x.Data := fun x hx => by
    obtain ⟨_, _, ⟨_, h, _⟩, _⟩ := hoth x hx
    rw [hR] at h
    simp only [clone_List_byte]; rw [apnd_big (by decide) (by simp; omega)]; rfl
  refine (forR_eq (fun rest i (acc : List Segment) => acc ++ rest = a.Path) (fun _ _ _ => some a) ?_ ?_ a.Path 0 [] rfl).trans rfl
  · intro i acc hacc
    have hacc : acc = a.Path := by simpa using hacc
    subst hacc
    refine (forR_eq (fun rest i (acc : List Unknown) => acc ++ rest = a.Other) (fun _ _ _ => some a) ?_ ?_ a.Other 0 [] rfl).trans rfl
    · intro i acc hacc
      have hacc : acc = a.Other := by simpa using hacc
      subst hacc
      simp only [e2, e3, some_bind']
    · intro next x t i acc hacc hn
      have hm : x ∈ a.Other := by rw [← hacc]; simp
      have hl : acc.length + 1 ≤ a.Other.length := by rw [← hacc]; simp
      simp only [e5 _ hm, some_bind']
      rw [apnd_big (by decide) (by simp; omega)]
      simp only [some_bind']
      exact hn _ (by rw [← hacc]; simp)
  · intro next x t i acc hacc hn
    have hm : x ∈ a.Path := by rw [← hacc]; simp
    have hl : acc.length + 1 ≤ a.Path.length := by rw [← hacc]; simp
    simp only [e4 _ hm, some_bind']
    rw [apnd_big (by decide) (by simp; omega)]
    simp only [some_bind']
    exact hn _ (by rw [← hacc]; simp)

theorem small_ex (a : Attrs) : ∃ b, mill_Small a = some b := by
  unfold mill_Small
  simp only [joinP_def]
  have := forR_ex (ρ := Bool) (σ := Int) (fun (_ : List Segment) _ _ => True) (fun _ => True) (done := fun v19 => forR (σ := Int) (fun v43 => some (decide (v43 ≤ 2000))) (fun next48 x45 i44 v43 => next48 (i64w (v43 + (x45.Data.length : Int)))) a.Other 0 v19)
    (body := fun next24 x21 i20 v19 => next24 (i64w (v19 + (i64w (1 + (x21.ASNs.length : Int)))))) (fun i s _ => ?_) (fun next x t i s _ hn => hn _ trivial) a.Path 0 (i64w ((i64w ((a.Communities.length : Int) + (a.Large.length : Int))) + (a.Other.length : Int))) trivial
  · obtain ⟨r, hr, _⟩ := this
    exact ⟨r, hr⟩
  · exact forR_ex (fun _ _ _ => True) (fun _ => True) (fun i s _ => ⟨_, rfl, trivial⟩) (fun next x t i s _ hn => hn _ trivial) a.Other 0 s trivial

theorem same_loop {α : Type} (l : List α) {body : (Unit → Option Bool) → α → Nat → Unit → Option Bool} (K : Option Bool)
    (h : ∀ (next : Unit → Option Bool) pre x t, l = pre ++ x :: t → next () = K → body next x pre.length () = K) {done : Unit → Option Bool} (hd : done () = K) : forR done body l 0 () = K :=
  forR_eq (fun rest i _ => ∃ pre, l = pre ++ rest ∧ i = pre.length) (fun _ _ _ => K) (fun i s _ => by cases s; exact hd)
    (fun next x t i s hp hn => by
      obtain ⟨pre, h1, rfl⟩ := hp
      exact h next pre x t h1 (hn () ⟨pre ++ [x], by simp [h1], by simp⟩)) l 0 () ⟨[], rfl, rfl⟩

theorem sameInts_self (l : List Int) : ref23_SameInts l l = some true := by
  simp only [ref23_SameInts, joinP_def, bne_self_eq_false, Bool.false_eq_true, if_false]
  refine same_loop l _ (fun next pre x t he hn => ?_) rfl
  subst he
  simp only [geti_at, some_bind', bne_self_eq_false, Bool.false_eq_true, if_false]
  exact hn

theorem eqd_addr (a : Addr) : Addr.eqd a a = true := by simp [Addr.eqd]
theorem eqd_comm (a : Community) : Community.eqd a a = true := by simp [Community.eqd]
theorem eqd_large (a : Large) : Large.eqd a a = true := by simp [Large.eqd]

theorem sameAttrs_self (a : Attrs) : ref23_SameAttrs a a = some true := by
  simp only [ref23_SameAttrs, joinP_def, bne_self_eq_false, Bool.false_eq_true, if_false, eqd_addr, Bool.not_true]
  refine same_loop a.Path _ (fun next pre x t he hn => ?_) ?_
  · rw [he]
    simp only [geti_at, some_bind', sameInts_self, beq_self_eq_true, Bool.not_true, Bool.false_eq_true, if_false]
    exact hn
  refine same_loop a.Communities _ (fun next pre x t he hn => ?_) ?_
  · rw [he]
    simp only [geti_at, some_bind', eqd_comm, Bool.not_true, Bool.false_eq_true, if_false]
    exact hn
  refine same_loop a.Large _ (fun next pre x t he hn => ?_) ?_
  · rw [he]
    simp only [geti_at, some_bind', eqd_large, Bool.not_true, Bool.false_eq_true, if_false]
    exact hn
  refine same_loop a.Other _ (fun next pre x t he hn => ?_) rfl
  rw [he]
  simp only [geti_at, some_bind', bne_self_eq_false, beq_self_eq_true, Bool.not_true, Bool.false_eq_true, if_false]
  exact hn

theorem recv_ex (m n : Int) (a : Attrs) : ∃ r, ref23_Receive m n a = some r := by
  simp only [ref23_Receive, joinP_def, bad_eq, some_bind']
  cases isRole m <;> cases isNum n <;> by_cases h1 : a.OTC = -1 <;> by_cases h2 : m = 2 <;> by_cases h3 : m = 3 <;> by_cases h4 : m = 4 <;> by_cases h5 : a.OTC = n <;> simp [h1, h2, h3, h4, h5]
  all_goals (repeat' split) <;> first | exact ⟨_, rfl⟩ | exact ⟨_, _, rfl⟩ | exact ⟨_, _, rfl, rfl⟩ | exact ⟨_, _, ⟨rfl, rfl⟩⟩
theorem send_ex (m n : Int) (a : Attrs) : ∃ r, ref23_Send m n a = some r := by
  simp only [ref23_Send, joinP_def, bad_eq, some_bind']
  cases isRole m <;> cases isNum n <;> by_cases h1 : a.OTC = -1 <;> by_cases h2 : m = 0 <;> by_cases h3 : m = 1 <;> by_cases h4 : m = 4 <;> simp [h1, h2, h3, h4]

theorem roleMarks (raw : Attrs) (mine n otc : Int) (l : List Int) (hw : Attrs.wf raw) (hl : l.length ≤ 9223372036854775807) : law23_RoleMarks raw mine n otc l = some true := by
  unfold law23_RoleMarks
  obtain ⟨b, hb⟩ := small_ex raw
  obtain ⟨⟨a, d⟩, e, ha, _⟩ := attrs_ok (l := l) (d := ⟨l, 0⟩) ⟨rfl, by simp, hl⟩ 101 false
  simp only at ha
  simp only [hb, some_bind']
  cases b
  · simp only [Bool.not_false, if_true, awake_eq, some_bind']
  simp only [Bool.not_true, Bool.false_eq_true, if_false, new_eq, e, some_bind', mod_eq _ 400 (by decide) (by decide), mod_eq _ 3 (by decide) (by decide), mod_eq _ 5 (by decide) (by decide)]
  have r1 := gomod_range otc (n := 3) (by decide)
  have r2 := gomod_range n (n := 3) (by decide)
  have r3 := gomod_range n (n := 400) (by decide)
  obtain ⟨o, ho, _⟩ := geti_ok ([-1, 101, gomod otc 400] : List Int) (gomod otc 3) r1.1 (by simp; omega)
  obtain ⟨q, hq, _⟩ := geti_ok ([101, 102, 1] : List Int) (gomod n 3) r2.1 (by simp; omega)
  simp only [ho, hq, some_bind', joinP_def, awake_eq]
  have hclone : ∀ x ∈ ([{ a with OTC := o }, raw] : List Attrs), clone_Attrs x = some x := by
    intro x hx
    simp only [List.mem_cons, List.not_mem_nil, or_false] at hx
    rcases hx with rfl | rfl
    · exact clone_ok _ (by have := ha.path; simp; omega) (fun s hs => by have := ha.seg s hs; omega) (by have := ha.com; simp; omega) (by have := ha.lar; simp; omega) (by have := ha.oth; simp; omega) (fun x hx => by have := ha.dat x hx; omega)
    · exact clone_big _ hw
  refine same_loop _ _ (fun next pre x t he hn => ?_) rfl
  have hx := hclone x (by rw [he]; simp)
  refine same_loop _ _ (fun next2 pre2 p t2 he2 hn2 => ?_) hn
  have hp : p ∈ ([[mine, n], [gomod mine 5, q], [gomod mine 5, i64w (1 + gomod n 400)]] : List (List Int)) := by rw [he2]; simp
  obtain ⟨u, v, rfl⟩ : ∃ u v, p = [u, v] := by
    simp only [List.mem_cons, List.not_mem_nil, or_false] at hp
    rcases hp with rfl | rfl | rfl <;> exact ⟨_, _, rfl⟩
  have g0 : geti [u, v] 0 = some u := rfl
  have g1 : geti [u, v] 1 = some v := rfl
  obtain ⟨⟨x1, y1⟩, e1⟩ := recv_ex u v x
  obtain ⟨⟨x2, y2⟩, e2⟩ := send_ex u v x
  simp only [g0, g1, some_bind', receive_eq u v x hx, send_eq u v x hx, e1, e2, bne_self_eq_false, Bool.false_eq_true, if_false, sameAttrs_self, Bool.not_true]
  exact hn2

theorem roleDownW (l : List Int) (mine fr to own : Int) (h : l.length ≤ maxLen ∧ l.length * 8 ≤ reachBytes ∧ ∀ a ∈ l, I64 a) (_ : I64 mine) (_ : I64 fr) (_ : I64 to) (_ : I64 own) : law23_RoleDown l mine fr to own = some true := roleDown l mine fr to own h.1
theorem roleMarksW (raw : Attrs) (mine n otc : Int) (l : List Int) (hw : Attrs.wf raw) (_ : I64 mine) (_ : I64 n) (_ : I64 otc) (h : l.length ≤ maxLen ∧ l.length * 8 ≤ reachBytes ∧ ∀ a ∈ l, I64 a) : law23_RoleMarks raw mine n otc l = some true := roleMarks raw mine n otc l hw h.1
end Go.AX.Q23
