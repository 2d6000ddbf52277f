/- Walks over package lexico, part 3: feasible, Minimize. -/
import Derived.Test.YtemchaglffchjaaA10
import Derived.Test.YtemchaglffchjaaLx2
import Derived.Test.YtemchaglffchjaaLxz
set_option linter.unusedVariables false
namespace Go.Eng
open Go.Proofs Num Lp
end Go.Eng
