/- Walks over package rational, part 4: Sub and Cmp (not for a seat that does not reach them). -/
import Derived.Test.YtemchaglffchjaaA10
set_option linter.unusedVariables false
namespace Go.Eng
open Go.Proofs Num
end Go.Eng
