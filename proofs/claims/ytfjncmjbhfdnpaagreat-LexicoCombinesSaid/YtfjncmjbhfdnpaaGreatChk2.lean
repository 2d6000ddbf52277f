/- Walks over package amortcostref22, part 2: CheckOptimal, CheckInfeasible, CheckUnbounded, Check. -/
import Derived.Test.YtfjncmjbhfdnpaaGreatA10
import Derived.Test.YtfjncmjbhfdnpaaGreatChk1
set_option linter.unusedVariables false
namespace Go.Eng
open Go.Proofs Num Lp
end Go.Eng
