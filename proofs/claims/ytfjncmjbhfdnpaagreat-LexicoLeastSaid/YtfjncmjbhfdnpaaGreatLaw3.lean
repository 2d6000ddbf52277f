/- What Minimize gives for small programs. -/
import Derived.Test.YtfjncmjbhfdnpaaGreatA14
import Derived.Test.YtfjncmjbhfdnpaaGreatSane2
import Derived.Test.YtfjncmjbhfdnpaaGreatLaw2
set_option linter.unusedVariables false
namespace Go.au
open Go.Proofs Num Lp
end Go.au
