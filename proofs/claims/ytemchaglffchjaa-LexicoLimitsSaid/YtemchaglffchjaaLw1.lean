/- Walks over packages amortcostref22 (vectors, LexicoError) and amortcostlaw23 (kept, solvable). -/
import Derived.Test.YtemchaglffchjaaA10
import Derived.Test.YtemchaglffchjaaLx3
import Derived.Test.YtemchaglffchjaaVal2
set_option linter.unusedVariables false
namespace Go.Eng
open Go.Proofs Num Lp
end Go.Eng
