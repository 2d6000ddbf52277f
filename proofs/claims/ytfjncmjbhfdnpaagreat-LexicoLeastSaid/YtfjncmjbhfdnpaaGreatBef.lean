/- Walks over package amortcostref22: Before. -/
import Derived.Test.YtfjncmjbhfdnpaaGreatA14
set_option linter.unusedVariables false
namespace Go.au
open Go.Proofs Num Lp
end Go.au
