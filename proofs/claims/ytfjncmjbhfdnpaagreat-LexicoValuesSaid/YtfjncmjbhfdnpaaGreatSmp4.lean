/- Walks over package simplex, simplex.go, part 4: sums. -/
import Derived.Test.YtfjncmjbhfdnpaaGreatA14
import Derived.Test.YtfjncmjbhfdnpaaGreatSmp3
set_option linter.unusedVariables false
namespace Go.aw
open Go.Proofs Num Lp
end Go.aw
