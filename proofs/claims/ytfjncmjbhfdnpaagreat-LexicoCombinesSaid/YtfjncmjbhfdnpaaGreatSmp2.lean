/- Walks over package simplex, simplex.go, part 2: stands, Value. -/
import Derived.Test.YtfjncmjbhfdnpaaGreatA10
set_option linter.unusedVariables false
namespace Go.Eng
open Go.Proofs Num Lp
end Go.Eng
