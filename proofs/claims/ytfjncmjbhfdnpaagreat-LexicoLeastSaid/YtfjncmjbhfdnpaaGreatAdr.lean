/- A program with one more row (plain). -/
import Derived.Test.YtfjncmjbhfdnpaaGreatA14
set_option linter.unusedVariables false
namespace Go.au
open Lp
end Go.au
