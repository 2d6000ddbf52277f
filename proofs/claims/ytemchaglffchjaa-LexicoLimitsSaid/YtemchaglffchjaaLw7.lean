/- LexicoExtends: ref22.canonicals, ref22.Extend, lexico.Extend and the law's walk. -/
import Derived.Test.YtemchaglffchjaaA10
import Derived.Test.YtemchaglffchjaaLw2
import Derived.Test.YtemchaglffchjaaSame
set_option linter.unusedVariables false
namespace Go.Eng
open Go.Proofs Num Lp
theorem progV_zero (N : Nat) (H : Heap) : ProgV N H (.agg #[.slice none 0 0, .slice none 0 0]) ⟨[], []⟩ := ⟨_, _, rfl, slV_nil, slV_nil⟩
end Go.Eng
