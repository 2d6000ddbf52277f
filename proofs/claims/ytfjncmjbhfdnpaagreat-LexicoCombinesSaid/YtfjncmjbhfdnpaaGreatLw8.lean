/- Walks over package amortcostref22: levels, CheckLexico; LexicoMinimizes. -/
import Derived.Test.YtfjncmjbhfdnpaaGreatA10
import Derived.Test.YtfjncmjbhfdnpaaGreatLw7
import Derived.Test.YtfjncmjbhfdnpaaGreatLw3
import Derived.Test.YtfjncmjbhfdnpaaGreatChk2
set_option linter.unusedVariables false
namespace Go.Eng
open Go.Proofs Num Lp
theorem VecP.mono {N M : Nat} {H : Heap} {vs : List Value} {l : List Rat} (h : VecP N H vs l) (hl : N ≤ M) : VecP M H vs l := by
  obtain ⟨A, c, h1, h2⟩ := h
  exact ⟨A, c, h1, h2.mono fun _ _ h => RatP.mono h hl⟩
end Go.Eng
