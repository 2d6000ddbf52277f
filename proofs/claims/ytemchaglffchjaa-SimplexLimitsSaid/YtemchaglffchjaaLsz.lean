/- The sizes of the numbers while columns are fixed (plain). -/
import Derived.Test.YtemchaglffchjaaA10
import Derived.Test.YtemchaglffchjaaLst
import Derived.Test.YtemchaglffchjaaLxz
set_option linter.unusedVariables false
namespace Go.Eng
open Go.Proofs Num Lp
section
variable {p : Prg} {l : List Rat} {v : Rat}
end
end Go.Eng
