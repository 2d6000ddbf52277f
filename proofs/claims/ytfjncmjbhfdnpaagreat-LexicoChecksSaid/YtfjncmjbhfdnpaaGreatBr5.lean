/- Arguments that are results of lexico, or numbers. -/
import Derived.Test.YtfjncmjbhfdnpaaGreatA10
import Derived.Test.YtfjncmjbhfdnpaaGreatBr3
import Derived.Test.YtfjncmjbhfdnpaaGreatLw8
set_option linter.unusedVariables false
namespace Go.ay
open Go.Proofs Num Lp
section
variable {Hy:Type} {enc:TypeId×Value→Hy} {w:World} {spare:Nat→Bool} {held:Bool}
set_option maxRecDepth 100000 in
theorem aee{v:Value}{d:DataW Hy}{ps:List MemPlace}{b0:Nat}{rr:Reach}(hv:Value.okWide Tryz.prog w rr b0 31 v)(h:DataW.Trod enc Tryz.prog w 0 spare held 31 v d ps):∃q,bN (gL w) v q maxLen:=by
 obtain⟨cs,rfl,cP⟩:=WideShapes.okWide_struct Tryz.underlying31 hv
 obtain⟨cs,rfl⟩:∃l:List Value,cs=l.toArray:=⟨cs.toList,by simp⟩
 rw[NF]at cP
 obtain⟨fuel,hf⟩:=h
 have J9:DataW.trod enc Tryz.prog w 0 spare held fuel 31 cs=some (d,ps):=by simpa [Value.cells]using hf
 exact NG J9 (by simpa using cP)
set_option maxRecDepth 100000 in
theorem aef{v:Value}{d:DataW Hy}{ps:List MemPlace}{b0:Nat}{rr:Reach}(hv:Value.okWide Tryz.prog w rr b0 43 v)(h:DataW.Trod enc Tryz.prog w 0 spare held 43 v d ps):∃S,nM maxLen (gL w) v S:=by
 obtain⟨cs,rfl,cP⟩:=WideShapes.okWide_struct Tryz.underlying43 hv
 have hC:Tryz.prog.cellsOf 43=5:=by kernel_rfl
 obtain⟨cs,rfl⟩:∃l:List Value,cs=l.toArray:=⟨cs.toList,by simp⟩
 match cs,(show cs.length=5 by rw[hC]at cP;simpa using cP)with
 | [a,b,c,e,f],_=>
  obtain⟨fuel,hf⟩:=h
  obtain⟨xs,n,_,_,_,hlen,hg⟩:=DataW.trod_struct Tryz.underlying43 hf
  have c0:Tryz.prog.cellsOf 3=1:=by kernel_rfl
  have c1:Tryz.prog.cellsOf 26=1:=by kernel_rfl
  have c2:Tryz.prog.cellsOf 40=1:=by kernel_rfl
  match xs,(show xs.length=5 from hlen)with
  | [y0,y1,y2,y3,y4],_=>
   have h0:DataW.trod enc Tryz.prog w 0 spare held n 3 (List.take (Tryz.prog.cellsOf 3) (List.drop 0 _))=some y0:=hg 0 _ rfl
   have h1:DataW.trod enc Tryz.prog w 0 spare held n 26 (List.take (Tryz.prog.cellsOf 26) (List.drop 1 _))=some y1:=hg 1 _ rfl
   have h2:DataW.trod enc Tryz.prog w 0 spare held n 26 (List.take (Tryz.prog.cellsOf 26) (List.drop 2 _))=some y2:=hg 2 _ rfl
   have h3:DataW.trod enc Tryz.prog w 0 spare held n 40 (List.take (Tryz.prog.cellsOf 40) (List.drop 3 _))=some y3:=hg 3 _ rfl
   have h4:DataW.trod enc Tryz.prog w 0 spare held n 26 (List.take (Tryz.prog.cellsOf 26) (List.drop 4 _))=some y4:=hg 4 _ rfl
   obtain⟨z,k0,_⟩:=DataW.trod_int Tryz.underlying3 h0
   obtain⟨v1,l1,k1,j1⟩:=FF h1
   obtain⟨v2,l2,k2,j2⟩:=FF h2
   obtain⟨v3,l3,k3,j3,_⟩:=Ug h3
   obtain⟨v4,l4,k4,j4⟩:=FF h4
   simp only[c0,c1,c2]at k0 k1 k2 k3 k4
   simp[Value.cells]at k0 k1 k2 k3 k4
   subst k0 k1 k2 k3 k4
   obtain⟨A1,d1,_,rfl,_⟩:=id j1
   obtain⟨A2,d2,_,rfl,_⟩:=id j2
   obtain⟨A3,d3,_,rfl,_⟩:=id j3
   obtain⟨A4,d4,_,rfl,_⟩:=id j4
   exact⟨⟨z,l1,l2,l3,l4⟩,_,_,_,_,_,_,_,_,rfl,j1,j2,j3,j4⟩
end
end Go.ay
