/- Walks over package simplex, simplex.go, part 4: sums. -/
import Derived.Test.YtfjncmjbhfdnpaaGreatA14
import Derived.Test.YtfjncmjbhfdnpaaGreatSmp3
set_option linter.unusedVariables false
namespace Go.au
open Go.Proofs Num Lp
end Go.au
