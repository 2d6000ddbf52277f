/- law23's sane. -/
import Derived.Test.YtemchaglffchjaaA10
import Derived.Test.YtemchaglffchjaaLw1
import Derived.Test.YtemchaglffchjaaSn3
import Derived.Test.YtemchaglffchjaaSame
set_option linter.unusedVariables false
namespace Go.Eng
open Go.Proofs Num Lp
end Go.Eng
