/- Walks over package entail, part 6: minimize, Least, Model. -/
import Derived.Test.YtbbjgagpbffooaaGreatA10
import Derived.Test.YtbbjgagpbffooaaGreatEn5
import Derived.Test.YtbbjgagpbffooaaGreatGrw2
set_option linter.unusedVariables false
namespace Go.Eng
open Go.Proofs Num Lp
end Go.Eng
