/- What Minimize gives for small programs. -/
import Derived.Test.YtgjimcieaecdkaaGreatA10
import Derived.Test.YtgjimcieaecdkaaGreatSane2
import Derived.Test.YtgjimcieaecdkaaGreatLaw2
set_option linter.unusedVariables false
namespace Go.au
open Go.Proofs Num Lp
theorem w6.O7{H:Heap}{v cv:Value}{p:Prg}{c:List Rat}(h:w6 H v cv p c):AO 2 H v cv p c:=
 ⟨h.AQ.prog,h.vec,by decide,by have:=h.len;have:=h.AQ.eZ;omega,by have:=h.AQ.rows;omega,fun r hr=>by
  obtain⟨i,hi⟩:=List.getElem?_of_mem hr
  have:=h.AQ.row i r hi;omega⟩
end Go.au
