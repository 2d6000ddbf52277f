/- How long the slices of an argument are, by what it reads as. -/
import Derived.Test.YtdjoookebbbjkaaGreatA17
set_option linter.unusedVariables false
namespace Go.aq
open Go.Proofs Num Lp
def SlD{Hy:Type}(d:DataW Hy)(n:Nat):Prop:=(d = .nil∧n=0)∨∃D sp,d = .slice ((List.range n).map D) sp
section
variable {Hy:Type} {enc:TypeId×Value→Hy} {w:World} {spare:Nat→Bool} {held:Bool}
theorem amE{P:Program}{t e n m c:Nat}{A:Option Addr}(ht:P.underlying t=some (.slice e)){x:DataW Hy×List MemPlace}(h:DataW.trod enc P w 0 spare held n t [.slice A m c]=some x):SlD x.1 m:=by
 rcases Deep.open_slice ht h with ⟨h1,rfl⟩ | ⟨a,len,cap,m',n',D,Pl,h1,_,_,_,_,rfl,_⟩
 ·simp only[List.cons.injEq,Value.slice.injEq,and_true]at h1
  exact .inl ⟨rfl,h1.2.1⟩
 ·simp only[List.cons.injEq,Value.slice.injEq,and_true]at h1
  obtain⟨_,rfl,_⟩:=h1
  exact .inr ⟨D,_,rfl⟩
end
end Go.aq
