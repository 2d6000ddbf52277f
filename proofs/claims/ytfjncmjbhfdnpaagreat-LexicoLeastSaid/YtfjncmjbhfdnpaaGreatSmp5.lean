/- Walks over package simplex, simplex.go, part 5: CheckInfeasible, CheckUnbounded. -/
import Derived.Test.YtfjncmjbhfdnpaaGreatA14
import Derived.Test.YtfjncmjbhfdnpaaGreatSmp4
set_option linter.unusedVariables false
namespace Go.au
open Go.Proofs Num Lp
end Go.au
