/- What follows from more facts, sums, chains: plain. -/
import Derived.Test.YtbbjgagpbffooaaGreatA10
import Derived.Test.YtbbjgagpbffooaaGreatEnt
set_option linter.unusedVariables false
namespace Lp
/-- A weighted sum over forms. -/
def wsum (fs : List Lin) (x : Nat → Rat) (w : Lin → Rat) : Rat := sumN fs.length (fun i => x i * w (nth fs i))
/-! ## the sum of two forms -/
end Lp
