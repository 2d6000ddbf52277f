/- The form's own reach: the rows of a program that came in take at most 2^47 - 4096 bytes. -/
import Derived.Test.YtgjimcieaecdkaaGreatA10
import Derived.Test.YtgjimcieaecdkaaGreatBr2
import Derived.SizedLaws
set_option linter.unusedVariables false
namespace Go.ar
open Go.Proofs Num Lp
section
variable {Hy:Type}
theorem abi{ts:List TypeId}{ds:List (DataW Hy)}{y0 y1:DataW Hy}{n:Nat}(h:(DataW.weightsEach Tryz.prog (25::ts) (.agg [y0,y1]::ds)).all (·≤reachBytes)=true)(hn:FU y1 n):n*88≤140737488351232:=by
 rcases hn with ⟨_,rfl⟩ | ⟨D,sp,rfl⟩
 ·omega
 ·have hb:Tryz.prog.bytesOf 31=88:=by kernel_rfl
  have h1:=List.all_eq_true.1 h _ (DataW.weights_mem_each (j:=0) (t:=25) rfl rfl ((((List.range n).map D).length+sp.length)*Tryz.prog.bytesOf 31) (by
   simp only[DataW.weights,Tryz.underlying25]
   simp[DataW.weightsEach,DataW.weights,Tryz.underlying23]))
  rw[hb,List.length_map,List.length_range]at h1
  have h2:(n+sp.length)*88≤140737488351232:=of_decide_eq_true h1
  omega
end
end Go.ar
