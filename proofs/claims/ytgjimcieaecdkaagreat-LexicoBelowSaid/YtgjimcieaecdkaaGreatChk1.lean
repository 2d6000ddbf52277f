/- Walks over package amortcostref22, part 1: Dot, Value, related, above, Feasible, signed, ColumnSum, BoundSum. -/
import Derived.Test.YtgjimcieaecdkaaGreatA10
import Derived.Test.YtgjimcieaecdkaaGreatVal2
set_option linter.unusedVariables false
namespace Go.ar
open Go.Proofs Num Lp
end Go.ar
