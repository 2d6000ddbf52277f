/- SimplexTightens: the law's walk. -/
import Derived.Test.YtfjncmjbhfdnpaaGreatA15
import Derived.Test.YtfjncmjbhfdnpaaGreatLaw3
set_option linter.unusedVariables false
namespace Go.ar
open Go.Proofs Num Lp
end Go.ar
