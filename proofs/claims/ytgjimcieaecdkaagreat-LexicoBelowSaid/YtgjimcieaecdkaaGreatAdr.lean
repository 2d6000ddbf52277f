/- A program with one more row (plain). -/
import Derived.Test.YtgjimcieaecdkaaGreatA10
set_option linter.unusedVariables false
namespace Go.ar
open Lp
def lC(p:Prg)(r:List Rat×Int×Rat):Prg:=⟨p.free,p.rows ++ [r]⟩
theorem Rg{p:Prg}{r:List Rat×Int×Rat}{t:Rat}{x:Nat→Rat}(h:(lC p r).lp.cO t x):p.lp.cO t x:=by
 refine⟨h.1,fun i hi=> ?_⟩
 have ox:i<p.rows.length:=hi
 have h1:=h.2 i (show i<(p.rows ++ [r]).length by rw[List.length_append];omega)
 have e:(lC p r).row i=p.row i:=by
  show (p.rows ++ [r]).getD i _=p.rows.getD i _
  rw[List.getD,List.getD,List.getElem?_append_left ox]
 have e1:(lC p r).lp.rel i=p.lp.rel i:=by show ((lC p r).row i).2.1=(p.row i).2.1;rw[e]
 have e2:(lC p r).lp.a i=p.lp.a i:=by show fn ((lC p r).row i).1=fn (p.row i).1;rw[e]
 have e3:(lC p r).lp.b i=p.lp.b i:=by show ((lC p r).row i).2.2=(p.row i).2.2;rw[e]
 rw[e1,e2,e3]at h1
 exact h1
end Go.ar
