/- LexicoBelow: the law's walk. -/
import Derived.Test.YtfjncmjbhfdnpaaGreatA14
import Derived.Test.YtfjncmjbhfdnpaaGreatLw3
import Derived.Test.YtfjncmjbhfdnpaaGreatBef
import Derived.Test.YtfjncmjbhfdnpaaGreatAdr
import Derived.Test.YtfjncmjbhfdnpaaGreatSmp3
set_option linter.unusedVariables false
namespace Go.au
open Go.Proofs Num Lp
def rh(p:Prg):List Rat:=0::1::p.rows.flatMap (·.1)
theorem alL{p:Prg}(a8:p.Ok)(hn:p.free.length≤4)(hm:p.rows.length≤5)(h1:∀r,r∈p.rows→(∀q,q∈r.1→aq.wt q≤126)∧aq.wt r.2.2≤126):Oa p (rh p) 400000 (2*aq.cT (p.rows.map (·.2.2))):=by
 have hr:∀r,r∈p.rows→r.1.length≤4:=fun r hr=>by
  obtain⟨i,hi⟩:=List.getElem?_of_mem hr
  have:=(a8.row i r hi).1;omega
 have hc:aq.cT (rh p)≤22*126:=by
  refine Nat.le_trans (II (k:=126) fun q hq=> ?_) (Nat.mul_le_mul_right _ ?_)
  ·rcases List.mem_cons.1 hq with rfl | hq
   ·decide
   ·rcases List.mem_cons.1 hq with rfl | hq
    ·decide
    ·obtain⟨r,hr,hq⟩:=List.mem_flatMap.1 hq
     exact(h1 r hr).1 q hq
  ·have a1:=Uz hr
   have a3:p.rows.length*4≤5*4:=Nat.mul_le_mul_right _ hm
   simp only[rh,List.length_cons];omega
 have hb:aq.cT (p.rows.map (·.2.2))≤5*126:=by
  refine Nat.le_trans (II (k:=126) fun q hq=> ?_) (Nat.mul_le_mul_right _ (by rw[List.length_map];exact hm))
  obtain⟨r,hr,rfl⟩:=List.mem_map.1 hq
  exact(h1 r hr).2
 refine⟨fun i hi j _=> ?_,by simp[rh],by simp[rh],⟨_,N8 p⟩,?_,?_⟩
 ·have hi:i<p.rows.length:=hi
  show fn (p.row i).1 j∈_
  rw[Prg.ly (List.getElem?_eq_getElem hi)]
  exact UD (fun _ hq=>List.mem_cons_of_mem _ (List.mem_cons_of_mem _ (List.mem_flatMap.2 ⟨_,List.getElem_mem hi,hq⟩))) (List.mem_cons_self ..) j
 ·unfold iy
  have h9:2^p.rows.length≤2^5:=Nat.pow_le_pow_right (by decide) hm
  have h8:=Nat.mul_le_mul h9 (show 4*aq.cT (rh p)+p.rows.length+1≤4*(22*126)+5+1 by omega)
  have h7:2^5*(4*(22*126)+5+1)=355008:=by decide
  omega
 ·have h9:(p.free.length+1)*(400000+2*aq.cT (rh p)+1)≤5*(400000+2*(22*126)+1):=Nat.mul_le_mul (by omega) (by omega)
  omega
theorem eH.lsz{H:Heap}{v:Value}{p:Prg}(h:eH 2 H v p)(a8:p.Ok)(hn:p.free.length≤4)(hm:p.rows.length≤5):Oa p (rh p) 400000 (2*aq.cT (p.rows.map (·.2.2))):=
 alL a8 hn hm fun r hr=>⟨fun q hq=>NX ((h.two r hr).1 q hq),NX (h.two r hr).2⟩
end Go.au
