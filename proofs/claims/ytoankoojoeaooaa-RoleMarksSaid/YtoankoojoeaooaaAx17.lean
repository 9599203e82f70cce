/-
  AX, part 17: from a function's contract to the walk that a law's frame asks for.
-/
import Derived.Test.YtoankoojoeaooaaAx16
import Derived.Below
namespace Go.AX
open Go.RowKit

/-- all that is there -/
def Old (w : World) : Sc := fun b o => ∃ v, cellAt w b o = some v

theorem walk_of {P : Program} {f : FuncId} {args : List AV} {res : AV} (h : CallsOK P f args [] res []) (w : World) (vals : Array Value) (hs : vals.size = args.length)
    (hr : ∀ i (hi : i < args.length), RepA (Old w) w (fun _ => none) (ofL []) args[i] (vals.getD i undef) ∧ Closed (ofL []) args[i]) :
    Calls P f vals w fun e w' => (∃ v S φ, e = .returned v ∧ RepA S w' φ (ofL []) res v) ∧ Below w.heap.size w w' := by
  have hn : ∀ r, ofL [] r = none := fun r => by simp [ofL]
  refine (h.2 w (Old w) (fun _ => none) vals hs hr (fun _ _ => rfl) ⟨fun r o ho => by rw [hn] at ho; simp at ho, fun r _ _ _ _ hr => absurd (hn r) hr, fun r o ho => by rw [hn] at ho; simp at ho, fun _ _ h => h, fun _ _ _ => rfl, fun b o hS => ?_, fun _ _ h _ _ => h, fun _ _ _ => rfl, Nat.le_refl _, fun r _ _ hr => absurd (hn r) hr, ⟨rfl, rfl, rfl⟩⟩).mono fun e w' he => ?_
  · obtain ⟨v, hv⟩ := hS
    refine Nat.lt_of_not_le fun hge => ?_
    simp [cellAt, World.cell?, hge] at hv
  · obtain ⟨v, rfl, S', φ', m, _, hv, _⟩ := he
    refine ⟨⟨v, S', φ', rfl, hv⟩, m.os.1, m.os.2.2, m.os.2.1, m.sz, fun k hk => m.fr k hk ?_⟩
    rintro ⟨r, c, hr, _⟩
    exact absurd hr (by simp)

theorem walk_true {P : Program} {f : FuncId} {args : List AV} (h : CallsOK P f args [] (.b true) []) (w : World) (vals : Array Value) (hs : vals.size = args.length)
    (hr : ∀ i (hi : i < args.length), RepA (Old w) w (fun _ => none) (ofL []) args[i] (vals.getD i undef) ∧ Closed (ofL []) args[i]) :
    Calls P f vals w fun e w' => e = .returned (.bool true) ∧ Below w.heap.size w w' :=
  (walk_of h w vals hs hr).mono fun e w' ⟨⟨v, S, φ, he, hv⟩, hb⟩ => ⟨by rw [he, hv.bool], hb⟩

theorem I64.of_wf {a : Int} (h : (Lit.int .i64 a).wf = true) : I64 a := by
  have h : IntKind.i64.min ≤ a ∧ a ≤ IntKind.i64.max := by simpa [Lit.wf] using h
  simpa [IntKind.min, IntKind.max, IntKind.signed, IntKind.bits, I64] using h

end Go.AX
