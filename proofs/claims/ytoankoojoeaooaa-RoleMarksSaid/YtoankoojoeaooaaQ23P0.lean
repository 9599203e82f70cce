/-
  How a function of the seat is taken.
-/
import Derived.Test.YtoankoojoeaooaaAx19
import Derived.Test.YtoankoojoeaooaaQ23Tab
import Derived.Test.YtoankoojoeaooaaQ23Sp
namespace Go.AX.Q23
open Go Go.AX Go.Proofs
set_option maxRecDepth 100000
set_option maxHeartbeats 4000000
set_option linter.unusedVariables false

def keep : FuncId → List Bool := fun f => []
abbrev cx (n : Nat) : Cx := ⟨tt, n, CallsOK Try.prog, keep⟩

theorem ok {f : FuncId} (fn : Func) {args : List AV} {objs : List OB} {res : AV} {objs' : List OB}
    (hf : Try.prog.funcs[f]? = some fn) (hn : (fn.name == "runtime.NumGoroutine") = false) (h : funK (cx objs.length) fn args objs fun r o => r = res ∧ o = objs') : CallsOK Try.prog f args objs res objs' :=
  fn_ok tabOk (by kernel_rfl) keep hf hn h

abbrev X : AV := .dead
abbrev N : Option OB := none
def dd : Nat → List AV → List AV
  | 0, l => l
  | n + 1, l => .dead :: dd n l
def nn : Nat → List (Option OB) → List (Option OB)
  | 0, l => l
  | n + 1, l => none :: nn n l
end Go.AX.Q23
