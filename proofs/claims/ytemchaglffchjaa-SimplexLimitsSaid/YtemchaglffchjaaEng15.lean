/- The engine, part 15: a slice against nil; an empty slice written out. -/
import Derived.Test.YtemchaglffchjaaA10
import Derived.Lib.LazyBuf
set_option linter.unusedVariables false
namespace Go.Eng
section
variable {P : Program} {n : Nat} {all : Array Oper} {s : St} {H : Heap} {md : Mode} {K : St → Heap → Prop} {r : List Oper} {dst : Option Nat} {ty : TypeId} {pos : String} {after : Array Edge} {gd : Option (Nat × Bool)}
end
end Go.Eng
