/- Parts of slices, and slices put behind others. -/
import Derived.Test.YtemchaglffchjaaA10
import Derived.Test.YtemchaglffchjaaGrw2
import Derived.DataElems
set_option linter.unusedVariables false
namespace Go.Eng
open Go.Proofs Num Lp
section
variable {α : Type} {P : Heap → List Value → α → Prop} {sz : Nat} {H : Heap} {A : Option Addr} {c : Nat} {l : List α}
end
end Go.Eng
