/- LexicoFirst: the law's walk. -/
import Derived.Test.YtfjncmjbhfdnpaaGreatA10
import Derived.Test.YtfjncmjbhfdnpaaGreatLw2
set_option linter.unusedVariables false
namespace Go.ay
open Go.Proofs Num Lp
end Go.ay
