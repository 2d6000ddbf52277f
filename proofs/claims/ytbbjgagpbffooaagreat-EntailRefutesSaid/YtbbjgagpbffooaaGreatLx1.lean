/- Walks over package lexico, part 1: slices.Clone, slices.Index, slices.Contains at bool; canonical, vectors, extend, refusal. -/
import Derived.Test.YtbbjgagpbffooaaGreatA10
import Derived.Test.YtbbjgagpbffooaaGreatCat
import Derived.Test.YtbbjgagpbffooaaGreatLex
import Derived.Test.YtbbjgagpbffooaaGreatEng15
set_option linter.unusedVariables false
namespace Go.Eng
open Go.Proofs Num Lp
end Go.Eng
