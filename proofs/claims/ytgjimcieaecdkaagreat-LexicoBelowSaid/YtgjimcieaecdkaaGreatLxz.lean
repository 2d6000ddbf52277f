/- The sizes of the numbers of several levels (plain). -/
import Derived.Test.YtgjimcieaecdkaaGreatA10
import Derived.Test.YtgjimcieaecdkaaGreatLex
set_option linter.unusedVariables false
namespace Go.ar
open Go.Proofs Num Lp
def tM(p:Prg)(os:List (List Rat)):List Rat:=0::(p.rows.flatMap (·.1)++os.flatten)
theorem KY{l k:List Rat}(h:∀q,q∈l→q∈k)(h0:0∈k)(j:Nat):fn l j∈k:=by
 by_cases hj:j<l.length
 ·rw[iu (List.getElem?_eq_getElem hj)];exact h _ (List.getElem_mem hj)
 ·rw[WI (by omega)];exact h0
section
variable {p:Prg} {os:List (List Rat)} {vs:List Rat}
theorem Lw{o:List Rat}(ho:o∈os)(j:Nat):fn o j∈tM p os:=
 KY (fun _ hq=>List.mem_cons_of_mem _ (List.mem_append_right _ (List.mem_flatten.2 ⟨o,ho,hq⟩))) (List.mem_cons_self ..) j
theorem row_in{r:List Rat×Int×Rat}(hr:r∈p.rows)(j:Nat):fn r.1 j∈tM p os:=
 KY (fun _ hq=>List.mem_cons_of_mem _ (List.mem_append_left _ (List.mem_flatMap.2 ⟨r,hr,hq⟩))) (List.mem_cons_self ..) j
theorem Sf:In (tM p os) (bK p os vs):=fun i hi j _=>by
 have hi:i<(bK p os vs).rows.length:=hi
 have h1:=List.getElem_mem hi
 show fn ((bK p os vs).row i).1 j∈_
 rw[Prg.jF (List.getElem?_eq_getElem hi)]
 rcases ext_mem h1 with h2 | ⟨o,v,h2,_,e⟩
 ·exact row_in h2 j
 ·rw[e];exact Lw h2 j
theorem acF{D0 f D1 E:Nat}{v:Rat}(hl:vs.length<os.length)(hb:iy D0 f (bK p os vs))(h1:0<D1)(h2:D1≤2^E)(hv:ao.cQ (D1*D0) (2^(E+f)) v):iy (D1*D0) (E+f) (bK p os (vs ++ [v])):=by
 refine⟨Nat.mul_pos h1 hb.pos,by rw[Nat.pow_add];exact Nat.mul_le_mul h2 hb.le,fun i hi=> ?_⟩
 have hi:i<(bK p os (vs ++ [v])).rows.length:=hi
 rw[yL (by rw[List.length_append,List.length_singleton];omega),List.length_append,List.length_singleton]at hi
 show ao.cQ _ _ ((bK p os (vs ++ [v])).row i).2.2
 by_cases a7:i<p.rows.length+vs.length
 ·have e:(bK p os (vs ++ [v])).row i=(bK p os vs).row i:=by
   by_cases h3:i<p.rows.length
   ·show ((bK p os (vs ++ [v])).rows).getD i _=((bK p os vs).rows).getD i _
    rw[List.getD,List.getD,KO h3,KO h3]
   ·obtain⟨k,rfl⟩:∃k,i=p.rows.length+k:=⟨i-p.rows.length,by omega⟩
    have g1:os[k]? = some (os[k]'(by omega)):=List.getElem?_eq_getElem (by omega)
    have g2:vs[k]? = some (vs[k]'(by omega)):=List.getElem?_eq_getElem (by omega)
    rw[Prg.jF (Cm g1 g2),Prg.jF (Cm g1 (by rw[List.getElem?_append_left (by omega)];exact g2))]
  rw[e]
  have h4:=yo D1 (hb.b i (show i<(bK p os vs).rows.length by rw[yL (by omega)];exact a7))
  rw[Nat.mul_comm D1]
  refine h4.mono ?_
  rw[Nat.pow_add,Nat.mul_comm]
  exact Nat.mul_le_mul_right _ h2
 ·obtain rfl:i=p.rows.length+vs.length:=by omega
  have g1:os[vs.length]? = some (os[vs.length]'hl):=List.getElem?_eq_getElem hl
  have g2:(vs ++ [v])[vs.length]? = some v:=by rw[List.getElem?_append_right (Nat.le_refl _),Nat.sub_self];rfl
  rw[Prg.jF (Cm g1 g2)];exact hv
theorem KW(p:Prg):iy (ao.dV (p.rows.map (·.2.2))) (2*ao.cC (p.rows.map (·.2.2))) p:=by
 refine⟨ao.Aa _,Nat.le_trans (ao.vn _) (Nat.pow_le_pow_right (by decide) (by omega)),fun i hi=>ao.Es ?_⟩
 have hi:i<p.rows.length:=hi
 show (p.row i).2.2∈_
 rw[Prg.jF (List.getElem?_eq_getElem hi)]
 exact List.mem_map.2 ⟨_,List.getElem_mem hi,rfl⟩
structure wg(p:Prg)(os:List (List Rat))(E f0:Nat):Prop where
 bin:∃D,iy D f0 p
 lv:∀vs:List Rat,vs.length≤os.length→∃k,yt (bK p os vs) k∧e7 (tM p os) k (bK p os vs).lp.m≤E
 Gg:f0+(os.length+1)*E≤99999998
theorem wg.fit{E f0 D f:Nat}{o:List Rat}(h:wg p os E f0)(hl:vs.length≤os.length)(ho:o∈os∨∀j,fn o j=0)(hb:iy D f (bK p os vs)):∃M,Fits (bK p os vs) o M∧M≤E+f:=by
 obtain⟨k,h1,h2⟩:=h.lv vs hl
 refine⟨bits (tM p os) k (bK p os vs).lp.m f,JC Sf (fun j _=> ?_) hb h1,by unfold bits;omega⟩
 rcases ho with ho | ho
 ·exact Lw ho j
 ·rw[ho j];exact List.mem_cons_self ..
theorem wg.step{E f0 D f:Nat}{o:List Rat}{S:mL}(h:wg p os E f0)(hl:vs.length<os.length)(ho:o∈os)(hb:iy D f (bK p os vs))(hS:FL (bK p os vs) o S)(hs:S.status=1):∃D',iy D' (E+f) (bK p os (vs ++ [S.value])):=by
 obtain⟨k,h1,h2⟩:=h.lv vs (by omega)
 obtain⟨T,hT,e1,_⟩:=hS hs
 obtain⟨D1,g1,g2,g3,_⟩:=P5 (l:=tM p os) Sf (fun j _=>Lw ho j) hb h1 hT
 refine⟨D1*D,acF hl hb g1 (Nat.le_trans g2 (Nat.pow_le_pow_right (by decide) h2)) ?_⟩
 rw[e1]
 exact g3.mono (Nat.pow_le_pow_right (by decide) (by omega))
end
end Go.ar
