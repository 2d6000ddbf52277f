/- Walks over package simplex, simplex.go, part 3: Feasible, signed. -/
import Derived.Test.YtfjncmjbhfdnpaaGreatA14
import Derived.Test.YtfjncmjbhfdnpaaGreatSmp2
set_option linter.unusedVariables false
namespace Go.au
open Go.Proofs Num Lp
end Go.au
