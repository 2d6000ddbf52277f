/- Walks over package simplex, simplex.go, part 4: sums. -/
import Derived.Test.YtbdlohajhbnadaaGreatA10
import Derived.Test.YtbdlohajhbnadaaGreatSmp3
set_option linter.unusedVariables false
namespace Go.Eng
open Go.Proofs Num Lp
end Go.Eng
