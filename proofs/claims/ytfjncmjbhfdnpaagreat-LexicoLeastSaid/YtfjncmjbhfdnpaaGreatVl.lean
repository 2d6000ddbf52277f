/- SimplexValues: the law's walk. -/
import Derived.Test.YtfjncmjbhfdnpaaGreatA14
import Derived.Test.YtfjncmjbhfdnpaaGreatLaw3
set_option linter.unusedVariables false
namespace Go.au
open Go.Proofs Num Lp
end Go.au
