/- The program that law23's sane solves (plain). -/
import Derived.Test.YtemchaglffchjaaA10
import Derived.Test.YtemchaglffchjaaLsz
import Derived.Test.YtemchaglffchjaaLx5
set_option linter.unusedVariables false
namespace Go.Eng
open Go.Proofs Num Lp
end Go.Eng
