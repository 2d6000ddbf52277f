/- The sizes of the numbers of several levels (plain). -/
import Derived.Test.YtbbjgagpbffooaaGreatA10
import Derived.Test.YtbbjgagpbffooaaGreatLex
set_option linter.unusedVariables false
namespace Go.Eng
open Go.Proofs Num Lp
section
variable {p : Prg} {os : List (List Rat)} {vs : List Rat}
end
end Go.Eng
