/- Walks over package amortcostref22: Valid. -/
import Derived.Test.YtemchaglffchjaaA10
set_option linter.unusedVariables false
namespace Go.Eng
open Go.Proofs Num Lp
end Go.Eng
