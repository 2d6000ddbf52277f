/- Walks over package lexico, part 5: Least. -/
import Derived.Test.YtemchaglffchjaaA10
import Derived.Test.YtemchaglffchjaaLx4
set_option linter.unusedVariables false
namespace Go.Eng
open Go.Proofs Num Lp
end Go.Eng
