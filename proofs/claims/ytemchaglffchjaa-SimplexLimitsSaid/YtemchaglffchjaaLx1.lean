/- Walks over package lexico, part 1: slices.Clone, slices.Index, slices.Contains at bool; canonical, vectors, extend, refusal. -/
import Derived.Test.YtemchaglffchjaaA10
import Derived.Test.YtemchaglffchjaaCat
import Derived.Test.YtemchaglffchjaaLex
import Derived.Test.YtemchaglffchjaaEng15
set_option linter.unusedVariables false
namespace Go.Eng
open Go.Proofs Num Lp
end Go.Eng
