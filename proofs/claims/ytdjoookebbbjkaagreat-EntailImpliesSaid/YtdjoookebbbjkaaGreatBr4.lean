/- Arguments that are linear forms, lists of them, lists of integers. -/
import Derived.Test.YtdjoookebbbjkaaGreatA17
import Derived.Test.YtdjoookebbbjkaaGreatBr2
set_option linter.unusedVariables false
namespace Go.aq
open Go.Proofs Num Lp
section
variable {Hy:Type} {enc:TypeId×Value→Hy} {w:World} {spare:Nat→Bool} {held:Bool}
theorem amF{n:Nat}{cs:List Value}{x:DataW Hy×List MemPlace}(h:DataW.trod enc Tryz.prog w 0 spare held n 23 cs=some x):∃v l,cs = [v]∧aN gX 2 (kN w) v l:=
 let ⟨v,l,h1,h2,_⟩:=ZH (Q:=gX) Tryz.underlying23 (by kernel_rfl) (by decide) (fun _ cs _ hl h=>by
  match cs,hl with
  | [a,b],_=>
   obtain⟨y0,y1,m,_,_,h0,h1⟩:=ChangeShapes.trod_struct2 Tryz.underlying43 h
   have c0:Tryz.prog.cellsOf 3=1:=by kernel_rfl
   have c1:Tryz.prog.cellsOf 2=1:=by kernel_rfl
   obtain⟨z0,k0,_⟩:=DataW.trod_int Tryz.underlying3 h0
   obtain⟨z1,k1,_⟩:=DataW.trod_int Tryz.underlying2 h1
   simp only[c0,c1]at k0 k1
   simp at k0 k1
   subst k0 k1
   exact⟨(z0,z1),rfl⟩) h
 ⟨v,l,h1,h2⟩
theorem aci{n:Nat}{cs:List Value}{x:DataW Hy×List MemPlace}(h:DataW.trod enc Tryz.prog w 0 spare held n 25 cs=some x)(lu:cs.length=2):∃f,o6 (kN w) cs f:=by
 match cs,lu with
 | [a,b],_=>
  obtain⟨y0,y1,m,_,_,h0,h1⟩:=ChangeShapes.trod_struct2 Tryz.underlying25 h
  have c0:Tryz.prog.cellsOf 2=1:=by kernel_rfl
  have c1:Tryz.prog.cellsOf 23=1:=by kernel_rfl
  obtain⟨z0,k0,_⟩:=DataW.trod_int Tryz.underlying2 h0
  obtain⟨v,l,k1,k2⟩:=amF h1
  simp only[c0,c1]at k0 k1
  simp at k0 k1
  subst k0 k1
  obtain⟨A,c,_,rfl,_⟩:=id k2
  exact⟨⟨z0,l⟩,A,c,rfl,k2⟩
set_option maxRecDepth 100000 in
theorem amG{v:Value}{d:DataW Hy}{ps:List MemPlace}{b0:Nat}{rr:Reach}(hv:Value.okWide Tryz.prog w rr b0 25 v)(h:DataW.Trod enc Tryz.prog w 0 spare held 25 v d ps):∃(f:aJ)(A:Option Addr)(c:Nat),v = .agg #[.int .i64 f.c,.slice A f.ts.length c]∧aN gX 2 (kN w) (.slice A f.ts.length c) f.ts:=by
 obtain⟨cs,rfl,cP⟩:=WideShapes.okWide_struct Tryz.underlying25 hv
 have hC:Tryz.prog.cellsOf 25=2:=by kernel_rfl
 obtain⟨cs,rfl⟩:∃l:List Value,cs=l.toArray:=⟨cs.toList,by simp⟩
 have hl:cs.length=2:=by rw[hC]at cP;simpa using cP
 obtain⟨fuel,hf⟩:=h
 obtain⟨f,A,c,rfl,hs⟩:=aci (cs:=cs) (by simpa [Value.cells]using hf) hl
 exact⟨f,A,c,rfl,hs⟩
set_option maxRecDepth 100000 in
theorem amH{v:Value}{d:DataW Hy}{ps:List MemPlace}{b0:Nat}{rr:Reach}(hv:Value.okWide Tryz.prog w rr b0 22 v)(h:DataW.Trod enc Tryz.prog w 0 spare held 22 v d ps):∃fs,kn (kN w) v fs∧SlD d fs.length:=by
 obtain⟨a,len,cap,rfl⟩:=WideShapes.okWide_slice Tryz.underlying22 hv
 obtain⟨fuel,hf⟩:=h
 obtain⟨v',ls,k0,k1,_⟩:=ZH (Q:=o6) Tryz.underlying22 (by kernel_rfl) (by decide) (fun _ cs _ hl h=>aci h hl) hf
 simp[Value.cells]at k0
 subst k0
 refine⟨ls,k1,?_⟩
 obtain⟨A,c,xs,e,_⟩:=id k1
 cases e
 exact amE Tryz.underlying22 (by simpa [Value.cells]using hf)
end
end Go.aq
