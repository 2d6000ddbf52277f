/- Walks over package simplex, simplex.go, part 8: Check. -/
import Derived.Test.YtfjncmjbhfdnpaaGreatA14
import Derived.Test.YtfjncmjbhfdnpaaGreatSmp7
set_option linter.unusedVariables false
namespace Go.au
open Go.Proofs Num Lp
end Go.au
