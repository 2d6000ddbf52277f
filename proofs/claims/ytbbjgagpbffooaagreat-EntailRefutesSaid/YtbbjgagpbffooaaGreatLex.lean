/- Several objectives, one after the other (plain): programs with fixed objectives, certificates, and what they tell. -/
import Derived.Test.YtbbjgagpbffooaaGreatA10
set_option linter.unusedVariables false
namespace Lp
section
variable {p : Prg} {os : List (List Rat)} {vs : List Rat}
end
section
variable {p : Prg} {os : List (List Rat)} {vs vs' : List Rat}
end
end Lp
