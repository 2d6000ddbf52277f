/- How long the slices of an argument are, by what it reads as. -/
import Derived.Test.YtfjncmjbhfdnpaaGreatA10
set_option linter.unusedVariables false
namespace Go.ay
open Go.Proofs Num Lp
section
variable {Hy:Type} {enc:TypeId×Value→Hy} {w:World} {spare:Nat→Bool} {held:Bool}
end
end Go.ay
