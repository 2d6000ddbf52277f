/- Walks over package amortcostlaw22: sane. -/
import Derived.Test.YtfjncmjbhfdnpaaGreatA14
import Derived.Test.YtfjncmjbhfdnpaaGreatSane1
import Derived.Test.YtfjncmjbhfdnpaaGreatSmp8
set_option linter.unusedVariables false
namespace Go.au
open Go.Proofs Num Lp
end Go.au
