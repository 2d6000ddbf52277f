/- Walks over package lexico, part 2: extend, refusal. -/
import Derived.Test.YtbbjgagpbffooaaGreatA10
import Derived.Test.YtbbjgagpbffooaaGreatLx1
import Derived.Test.YtbbjgagpbffooaaGreatGrw3
set_option linter.unusedVariables false
namespace Go.Eng
open Go.Proofs Num Lp
end Go.Eng
