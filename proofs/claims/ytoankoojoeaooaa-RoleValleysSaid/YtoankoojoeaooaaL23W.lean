/-
  The laws with what is known of the arguments.
-/
import Derived.Test.YtoankoojoeaooaaL23C
namespace Go.AX.Q23
open Go Go.AX
theorem roleWaysW (raw : List Hop) (l : List Int) (_ : raw.length ≤ maxLen ∧ ∀ a ∈ raw, Hop.wf a) (h : l.length ≤ maxLen ∧ ∀ a ∈ l, I64 a) : law23_RoleWays raw l = some true := roleWays raw l h.1
theorem roleValleysW (raw : List Hop) (l : List Int) (_ : raw.length ≤ maxLen ∧ ∀ a ∈ raw, Hop.wf a) (h : l.length ≤ maxLen ∧ ∀ a ∈ l, I64 a) : law23_RoleValleys raw l = some true := roleValleys raw l h.1
end Go.AX.Q23
