/- Programs whose rows and columns are turned: they have the same results. -/
import Derived.Test.YtbbjgagpbffooaaGreatA10
set_option linter.unusedVariables false
namespace Lp
section
variable {p q : LP} {c d : Nat → Rat} {σ τ σ' τ' : Nat → Nat}
end
end Lp
