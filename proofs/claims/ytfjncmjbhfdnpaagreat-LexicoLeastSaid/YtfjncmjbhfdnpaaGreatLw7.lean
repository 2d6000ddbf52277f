/- LexicoExtends: ref22.canonicals, ref22.Extend, lexico.Extend and the law's walk. -/
import Derived.Test.YtfjncmjbhfdnpaaGreatA14
import Derived.Test.YtfjncmjbhfdnpaaGreatLw2
import Derived.Test.YtfjncmjbhfdnpaaGreatSame
set_option linter.unusedVariables false
namespace Go.au
open Go.Proofs Num Lp
end Go.au
