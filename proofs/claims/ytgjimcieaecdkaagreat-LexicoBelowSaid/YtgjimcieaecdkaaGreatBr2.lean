/- How long the slices of an argument are, by what it reads as. -/
import Derived.Test.YtgjimcieaecdkaaGreatA10
set_option linter.unusedVariables false
namespace Go.ar
open Go.Proofs Num Lp
def FU{Hy:Type}(d:DataW Hy)(n:Nat):Prop:=(d = .nil∧n=0)∨∃D sp,d = .slice ((List.range n).map D) sp
section
variable {Hy:Type} {enc:TypeId×Value→Hy} {w:World} {spare:Nat→Bool} {held:Bool}
theorem Ri{P:Program}{t e n m c:Nat}{A:Option Addr}(ht:P.underlying t=some (.slice e)){x:DataW Hy×List MemPlace}(h:DataW.trod enc P w 0 spare held n t [.slice A m c]=some x):FU x.1 m:=by
 rcases Deep.open_slice ht h with ⟨h1,rfl⟩ | ⟨a,len,cap,m',n',D,Pl,h1,_,_,_,_,rfl,_⟩
 ·simp only[List.cons.injEq,Value.slice.injEq,and_true]at h1
  exact .inl ⟨rfl,h1.2.1⟩
 ·simp only[List.cons.injEq,Value.slice.injEq,and_true]at h1
  obtain⟨_,rfl,_⟩:=h1
  exact .inr ⟨D,_,rfl⟩
set_option maxRecDepth 100000 in
theorem abh{Af Ar:Option Addr}{nf cf nr cr:Nat}{d:DataW Hy}{ps:List MemPlace}(h:DataW.Trod enc Tryz.prog w 0 spare held 25 (.agg #[.slice Af nf cf,.slice Ar nr cr]) d ps):∃y0 y1,d = .agg [y0,y1]∧FU y0 nf∧FU y1 nr:=by
 obtain⟨fuel,hf⟩:=h
 obtain⟨y0,y1,m,hd,_,h0,h1⟩:=ChangeShapes.trod_struct2 Tryz.underlying25 hf
 have c0:Tryz.prog.cellsOf 22=1:=by kernel_rfl
 have c1:Tryz.prog.cellsOf 23=1:=by kernel_rfl
 simp only[c0,c1]at h0 h1
 simp[Value.cells]at h0 h1
 exact⟨_,_,congrArg Prod.fst hd,Ri Tryz.underlying22 h0,Ri Tryz.underlying23 h1⟩
end
end Go.ar
