/- The sizes of the numbers while columns are fixed (plain). -/
import Derived.Test.YtfjncmjbhfdnpaaGreatA14
import Derived.Test.YtfjncmjbhfdnpaaGreatLst
import Derived.Test.YtfjncmjbhfdnpaaGreatLxz
set_option linter.unusedVariables false
namespace Go.au
open Go.Proofs Num Lp
section
variable {p:Prg} {l:List Rat} {v:Rat}
theorem alx(hl:In l p):In l (ie p v):=fun i hi j hj=>by
 have hi:i<(p.rows.map _).length:=hi
 rw[List.length_map]at hi
 have hj:j<(p.free.drop 1).length:=hj
 rw[List.length_drop]at hj
 show fn ((ie p v).row i).1 j∈l
 rw[Ff hi,Ux]
 exact hl i hi (j+1) (show j+1<p.free.length by omega)
theorem aly{D0 f D1 E:Nat}(hl:In l p)(hn:0<p.free.length)(hb:kK D0 f p)(h1:0<D1)(h2:D1≤2^E)(hv:aq.dV (D1*D0) (2^(E+f)) v):kK (aq.fR l*(D1*D0)) (2*aq.cT l+(E+f)+1) (ie p v):=by
 have hD:=aq.GC l
 have Ew:aq.fR l≤2^(2*aq.cT l):=Nat.le_trans (aq.Bv l) (Nat.pow_le_pow_right (by decide) (by omega))
 have h3:D1*D0≤2^(E+f):=by rw[Nat.pow_add];exact Nat.mul_le_mul h2 hb.le
 refine⟨Nat.mul_pos hD (Nat.mul_pos h1 hb.pos),?_,fun i hi=> ?_⟩
 ·refine Nat.le_trans (Nat.mul_le_mul Ew h3) ?_
  rw[←Nat.pow_add];exact Nat.pow_le_pow_right (by decide) (by omega)
 ·have hi:i<(p.rows.map _).length:=hi
  rw[List.length_map]at hi
  show aq.dV _ _ ((ie p v).row i).2.2
  rw[Ff hi]
  have g1:=Et (aq.fR l*D1) (hb.b i hi)
  have g2:=YL (aq.Lo (hl i hi 0 hn)) hv
  have g3:aq.dV (aq.fR l*(D1*D0)) (2^f*(aq.fR l*D1)) (p.lp.b i):=by
   rw[show aq.fR l*(D1*D0)=D0*(aq.fR l*D1) by rw[←Nat.mul_assoc,Nat.mul_comm D0]];exact g1
  refine(g3.sub g2).mono ?_
  have g4:2^f*(aq.fR l*D1)≤2^f*(2^(2*aq.cT l)*2^E):=Nat.mul_le_mul_left _ (Nat.mul_le_mul Ew h2)
  have g5:2^f*(2^(2*aq.cT l)*2^E)=2^(2*aq.cT l+(E+f)):=by rw[←Nat.pow_add,←Nat.pow_add];congr 1;omega
  have g6:2^(2*aq.cT l)*2^(E+f)=2^(2*aq.cT l+(E+f)):=by rw[←Nat.pow_add]
  rw[Nat.pow_succ];omega
end
end Go.au
