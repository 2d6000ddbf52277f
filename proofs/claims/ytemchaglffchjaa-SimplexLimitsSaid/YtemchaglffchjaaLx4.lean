/- Walks over package lexico, part 4: fix. -/
import Derived.Test.YtemchaglffchjaaA10
import Derived.Test.YtemchaglffchjaaLx3
import Derived.Test.YtemchaglffchjaaLsz
import Derived.Test.YtemchaglffchjaaRat4
set_option linter.unusedVariables false
namespace Go.Eng
open Go.Proofs Num Lp
end Go.Eng
