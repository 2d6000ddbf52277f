/- The program that law22's sane solves. -/
import Derived.Test.YtfjncmjbhfdnpaaGreatA14
import Derived.Test.YtfjncmjbhfdnpaaGreatLaw1
set_option linter.unusedVariables false
namespace Go.au
open Go.Proofs Num Lp
end Go.au
