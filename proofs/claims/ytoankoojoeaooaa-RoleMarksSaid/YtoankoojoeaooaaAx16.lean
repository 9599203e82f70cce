/-
  AX, part 16: how a function is taken.
-/
import Derived.Test.YtoankoojoeaooaaAx15
import Derived.IntWalk
namespace Go.AX

theorem fn_ok {P : Program} {T : TT} (hT : TabOk P T) (hm : P.follows .mixedOrders = true) (keep : FuncId → List Bool) {f : FuncId} {fn : Func} {args : List AV} {objs : List OB} {res : AV} {objs' : List OB}
    (hf : P.funcs[f]? = some fn) (hn : (fn.name == "runtime.NumGoroutine") = false) (h : funK ⟨T, objs.length, CallsOK P, keep⟩ fn args objs fun r o => r = res ∧ o = objs') : CallsOK P f args objs res objs' :=
  funK_sound (cx := ⟨T, objs.length, CallsOK P, keep⟩) hT (fun _ _ _ _ _ h => h) (drawOK_sound hT (fun _ _ _ _ _ h => h) hm) hf (by simpa using hn) h

/-- an int64 -/
def I64 (x : Int) : Prop := -9223372036854775808 ≤ x ∧ x ≤ 9223372036854775807

theorem i64_id {a b : Int} (h1 : a = b) (h2 : I64 b) : IntKind.i64.wrap a = b := by
  subst h1
  exact IntWalk.i64_in a h2

theorem I64.of {x : Int} (h : -9223372036854775808 ≤ x ∧ x ≤ 9223372036854775807) : I64 x := h

/-- what an append asks for -/
theorem bnd {n b : Nat} (hb : Nat.ble b 65536 = true) (hn : n ≤ 1000000000) : n * b ≤ 2 ^ 47 ∧ n ≤ 2 ^ 47 := by
  have hb := Nat.le_of_ble_eq_true hb
  have := Nat.mul_le_mul hn hb
  omega

theorem dOK {ops : Array Oper} {K : Prop} (h : drawOK ops = true) (k : K) : drawOK ops = true ∧ K := ⟨h, k⟩
theorem cOK {ops : Array Oper} {i : Nat} {e : List (List Nat × Bool)} {K : Prop} (h : confOK ops i e = true) (k : K) : confOK ops i e = true ∧ K := ⟨h, k⟩
/-- an operation on int64 that does not overflow -/
theorem i64K {a : Int} {K : Int → Prop} (h : I64 a) (k : K a) : ∃ r, IntKind.i64.wrap a = r ∧ K r := ⟨a, i64_id rfl h, k⟩

end Go.AX
