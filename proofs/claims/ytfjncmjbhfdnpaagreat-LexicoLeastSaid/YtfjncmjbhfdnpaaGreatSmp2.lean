/- Walks over package simplex, simplex.go, part 2: stands, Value. -/
import Derived.Test.YtfjncmjbhfdnpaaGreatA14
set_option linter.unusedVariables false
namespace Go.au
open Go.Proofs Num Lp
end Go.au
