/- Walks over package lexico, part 2: extend, refusal. -/
import Derived.Test.YtemchaglffchjaaA10
import Derived.Test.YtemchaglffchjaaLx1
import Derived.Test.YtemchaglffchjaaGrw3
set_option linter.unusedVariables false
namespace Go.Eng
open Go.Proofs Num Lp
end Go.Eng
