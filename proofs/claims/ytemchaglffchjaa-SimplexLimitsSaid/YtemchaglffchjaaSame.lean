/- Walks over package amortcostref22: SameRats, SameProgram, for what is the same. -/
import Derived.Test.YtemchaglffchjaaA10
import Derived.Test.YtemchaglffchjaaGrw2
import Derived.Test.YtemchaglffchjaaChk1
set_option linter.unusedVariables false
namespace Go.Eng
open Go.Proofs Num Lp
end Go.Eng
