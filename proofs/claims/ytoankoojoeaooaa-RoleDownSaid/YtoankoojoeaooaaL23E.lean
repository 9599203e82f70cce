/-
  RoleDown with what is known of the arguments.
-/
import Derived.Test.YtoankoojoeaooaaL23D
namespace Go.AX.Q23
open Go Go.AX
theorem roleDownW (l : List Int) (mine fr to own : Int) (h : l.length ≤ maxLen ∧ ∀ a ∈ l, I64 a) (_ : I64 mine) (_ : I64 fr) (_ : I64 to) (_ : I64 own) : law23_RoleDown l mine fr to own = some true := roleDown l mine fr to own h.1
end Go.AX.Q23
