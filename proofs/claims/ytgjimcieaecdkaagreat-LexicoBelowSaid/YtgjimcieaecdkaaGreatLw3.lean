/- LexicoFirst: the law's walk. -/
import Derived.Test.YtgjimcieaecdkaaGreatA10
import Derived.Test.YtgjimcieaecdkaaGreatLw2
set_option linter.unusedVariables false
namespace Go.ar
open Go.Proofs Num Lp
end Go.ar
