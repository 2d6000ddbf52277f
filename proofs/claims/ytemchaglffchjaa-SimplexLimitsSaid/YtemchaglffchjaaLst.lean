/- The lexicographically least vector, column after column (plain). -/
import Derived.Test.YtemchaglffchjaaA10
set_option linter.unusedVariables false
namespace Lp
section
variable {p : Prg} {v : Rat}
end
end Lp
