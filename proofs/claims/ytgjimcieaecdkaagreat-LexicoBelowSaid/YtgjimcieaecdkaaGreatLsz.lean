/- The sizes of the numbers while columns are fixed (plain). -/
import Derived.Test.YtgjimcieaecdkaaGreatA10
import Derived.Test.YtgjimcieaecdkaaGreatLst
import Derived.Test.YtgjimcieaecdkaaGreatLxz
set_option linter.unusedVariables false
namespace Go.ar
open Go.Proofs Num Lp
section
variable {p:Prg} {l:List Rat} {v:Rat}
theorem abC(hl:In l p):In l (eT p v):=fun i hi j hj=>by
 have hi:i<(p.rows.map _).length:=hi
 rw[List.length_map]at hi
 have hj:j<(p.free.drop 1).length:=hj
 rw[List.length_drop]at hj
 show fn ((eT p v).row i).1 j∈l
 rw[yN hi,KQ]
 exact hl i hi (j+1) (show j+1<p.free.length by omega)
theorem abD{D0 f D1 E:Nat}(hl:In l p)(hn:0<p.free.length)(hb:iy D0 f p)(h1:0<D1)(h2:D1≤2^E)(hv:ao.cQ (D1*D0) (2^(E+f)) v):iy (ao.dV l*(D1*D0)) (2*ao.cC l+(E+f)+1) (eT p v):=by
 have hD:=ao.Aa l
 have yr:ao.dV l≤2^(2*ao.cC l):=Nat.le_trans (ao.vn l) (Nat.pow_le_pow_right (by decide) (by omega))
 have h3:D1*D0≤2^(E+f):=by rw[Nat.pow_add];exact Nat.mul_le_mul h2 hb.le
 refine⟨Nat.mul_pos hD (Nat.mul_pos h1 hb.pos),?_,fun i hi=> ?_⟩
 ·refine Nat.le_trans (Nat.mul_le_mul yr h3) ?_
  rw[←Nat.pow_add];exact Nat.pow_le_pow_right (by decide) (by omega)
 ·have hi:i<(p.rows.map _).length:=hi
  rw[List.length_map]at hi
  show ao.cQ _ _ ((eT p v).row i).2.2
  rw[yN hi]
  have g1:=yo (ao.dV l*D1) (hb.b i hi)
  have g2:=PN (ao.Es (hl i hi 0 hn)) hv
  have g3:ao.cQ (ao.dV l*(D1*D0)) (2^f*(ao.dV l*D1)) (p.lp.b i):=by
   rw[show ao.dV l*(D1*D0)=D0*(ao.dV l*D1) by rw[←Nat.mul_assoc,Nat.mul_comm D0]];exact g1
  refine(g3.sub g2).mono ?_
  have g4:2^f*(ao.dV l*D1)≤2^f*(2^(2*ao.cC l)*2^E):=Nat.mul_le_mul_left _ (Nat.mul_le_mul yr h2)
  have g5:2^f*(2^(2*ao.cC l)*2^E)=2^(2*ao.cC l+(E+f)):=by rw[←Nat.pow_add,←Nat.pow_add];congr 1;omega
  have g6:2^(2*ao.cC l)*2^(E+f)=2^(2*ao.cC l+(E+f)):=by rw[←Nat.pow_add]
  rw[Nat.pow_succ];omega
end
end Go.ar
