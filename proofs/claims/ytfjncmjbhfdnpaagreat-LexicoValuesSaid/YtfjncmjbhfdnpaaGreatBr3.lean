/- Arguments that are lists of lists of numbers. -/
import Derived.Test.YtfjncmjbhfdnpaaGreatA14
import Derived.Test.YtfjncmjbhfdnpaaGreatBr2
import Derived.Test.YtfjncmjbhfdnpaaGreatLx1
set_option linter.unusedVariables false
namespace Go.aw
open Go.Proofs Num Lp
section
variable {Hy:Type} {enc:TypeId×Value→Hy} {w:World} {spare:Nat→Bool} {held:Bool}
theorem ak1{n:Nat}{cs:List Value}{x:DataW Hy×List MemPlace}(h:DataW.trod enc Tryz.prog w 0 spare held n 40 cs=some x):∃v ls,cs = [v]∧jw maxLen (jL w) v ls∧ls.length≤maxLen:=
 I5 (Q:=rF maxLen) Tryz.underlying40 (by kernel_rfl) (by decide) (fun _ cs _ hl h=>by
  obtain⟨v,l,rfl,k⟩:=Z0 h
  obtain⟨A,c,_,rfl,_⟩:=id k
  exact⟨l,A,c,rfl,k⟩) h
set_option maxRecDepth 100000 in
theorem ak2{v:Value}{d:DataW Hy}{ps:List MemPlace}{b0:Nat}{rr:Reach}(hv:Value.okWide Tryz.prog w rr b0 40 v)(h:DataW.Trod enc Tryz.prog w 0 spare held 40 v d ps):∃ls,jw maxLen (jL w) v ls∧ls.length≤maxLen:=by
 obtain⟨a,len,cap,rfl⟩:=WideShapes.okWide_slice Tryz.underlying40 hv
 obtain⟨fuel,hf⟩:=h
 obtain⟨v',ls,k0,k1,k2⟩:=ak1 hf
 simp[Value.cells]at k0
 subst k0
 exact⟨ls,k1,k2⟩
end
end Go.aw
