/- Two slices that grow by append, over a heap that stays. -/
import Derived.Test.YtgjimcieaecdkaaGreatA10
set_option linter.unusedVariables false
namespace Go.au
open Go.Proofs Num Lp
end Go.au
