/- Walks over package lexico: levels, Check. -/
import Derived.Test.YtfjncmjbhfdnpaaGreatA10
import Derived.Test.YtfjncmjbhfdnpaaGreatLw8
import Derived.Test.YtfjncmjbhfdnpaaGreatSmp9
set_option linter.unusedVariables false
namespace Go.Eng
open Go.Proofs Num Lp
end Go.Eng
