/- Walks over package amortcostref22: Valid. -/
import Derived.Test.YtgjimcieaecdkaaGreatA10
set_option linter.unusedVariables false
namespace Go.ar
open Go.Proofs Num Lp
end Go.ar
