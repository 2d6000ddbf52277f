/- Three own slices side by side: one of them is changed in place. -/
import Derived.Test.YtfjncmjbhfdnpaaGreatA10
import Derived.Test.YtfjncmjbhfdnpaaGreatGrw3
import Derived.Test.YtfjncmjbhfdnpaaGreatLx1
set_option linter.unusedVariables false
namespace Go.Eng
open Go.Proofs Num Lp
section
variable {N e1 e2 : Nat} {H0 H H' : Heap} {V : Value} {l : List Rat} {xs : List Value} {X : Value} {k : List Rat} {ys : List Value} {D : Value} {j : List (List Rat)} {zs : List Value}
end
end Go.Eng
