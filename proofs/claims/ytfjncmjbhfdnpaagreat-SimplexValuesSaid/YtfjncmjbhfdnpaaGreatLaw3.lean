/- What Minimize gives for small programs. -/
import Derived.Test.YtfjncmjbhfdnpaaGreatA15
import Derived.Test.YtfjncmjbhfdnpaaGreatSane2
import Derived.Test.YtfjncmjbhfdnpaaGreatLaw2
set_option linter.unusedVariables false
namespace Go.ar
open Go.Proofs Num Lp
theorem R9.LY{H:Heap}{v cv:Value}{p:Prg}{c:List Rat}(h:R9 H v cv p c):Bi 2 H v cv p c:=
 ⟨h.HV.prog,h.vec,by decide,by have:=h.len;have:=h.HV.gM;omega,by have:=h.HV.rows;omega,fun r hr=>by
  obtain⟨i,hi⟩:=List.getElem?_of_mem hr
  have:=h.HV.row i r hi;omega⟩
end Go.ar
