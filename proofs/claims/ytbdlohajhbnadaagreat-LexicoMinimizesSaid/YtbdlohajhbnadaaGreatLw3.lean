/- LexicoFirst: the law's walk. -/
import Derived.Test.YtbdlohajhbnadaaGreatA10
import Derived.Test.YtbdlohajhbnadaaGreatLw2
set_option linter.unusedVariables false
namespace Go.Eng
open Go.Proofs Num Lp
end Go.Eng
