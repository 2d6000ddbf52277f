/- Walks over package amortcostlaw22, part 1: rats. -/
import Derived.Test.YtfjncmjbhfdnpaaGreatA14
set_option linter.unusedVariables false
namespace Go.au
open Go.Proofs Num Lp
end Go.au
