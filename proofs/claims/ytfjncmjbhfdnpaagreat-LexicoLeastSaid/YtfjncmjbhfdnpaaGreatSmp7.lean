/- Walks over package simplex, simplex.go, part 7: CheckUnbounded. -/
import Derived.Test.YtfjncmjbhfdnpaaGreatA14
import Derived.Test.YtfjncmjbhfdnpaaGreatSmp6
set_option linter.unusedVariables false
namespace Go.au
open Go.Proofs Num Lp
end Go.au
