/- Walks: entail.Holds; ref22.ValueOf, ref22.Holds. -/
import Derived.Test.YtbbjgagpbffooaaGreatA10
import Derived.Test.YtbbjgagpbffooaaGreatHld
import Derived.Test.YtbbjgagpbffooaaGreatEn7
import Derived.Test.YtbbjgagpbffooaaGreatEn6
set_option linter.unusedVariables false
namespace Go.Eng
open Go.Proofs Num Lp
end Go.Eng
