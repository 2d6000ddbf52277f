/- Assignments: plain. -/
import Derived.Test.YtbbjgagpbffooaaGreatA10
import Derived.Test.YtbbjgagpbffooaaGreatLnd2
set_option linter.unusedVariables false
namespace Lp
end Lp
namespace Go.Eng
open Lp Num
end Go.Eng
