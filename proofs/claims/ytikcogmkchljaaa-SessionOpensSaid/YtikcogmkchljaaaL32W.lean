/-
  The law on opens with what is known of the arguments.
-/
import Derived.Test.YtikcogmkchljaaaL32A
namespace Go.AX.Q32
open Go Go.AX
theorem sessionOpensW (raw : Open) (l : List Int) (code : Int) (_ : Open.wf raw) (h : l.length ≤ maxLen ∧ ∀ a ∈ l, I64 a) (_ : I64 code) : law32_SessionOpens raw l code = some true := sessionOpens raw l code h.1
end Go.AX.Q32
