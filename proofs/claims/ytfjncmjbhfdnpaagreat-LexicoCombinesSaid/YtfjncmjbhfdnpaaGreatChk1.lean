/- Walks over package amortcostref22, part 1: Dot, Value, related, above, Feasible, signed, ColumnSum, BoundSum. -/
import Derived.Test.YtfjncmjbhfdnpaaGreatA10
import Derived.Test.YtfjncmjbhfdnpaaGreatVal2
set_option linter.unusedVariables false
namespace Go.Eng
open Go.Proofs Num Lp
end Go.Eng
