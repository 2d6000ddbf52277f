/- How long the slices of an argument are, by what it reads as. -/
import Derived.Test.YtfjncmjbhfdnpaaGreatA14
set_option linter.unusedVariables false
namespace Go.aw
open Go.Proofs Num Lp
end Go.aw
