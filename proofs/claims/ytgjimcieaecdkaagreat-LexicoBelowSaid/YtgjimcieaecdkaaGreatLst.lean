/- The lexicographically least vector, column after column (plain). -/
import Derived.Test.YtgjimcieaecdkaaGreatA10
set_option linter.unusedVariables false
namespace Lp
def eT(p:Prg)(v:Rat):Prg:=⟨p.free.drop 1,p.rows.map fun r=>(r.1.drop 1,r.2.1,r.2.2-fn r.1 0*v)⟩
theorem abw(n:Nat)(f:Nat→Rat):aP (n+1) f=f 0+aP n (fun j=>f (j+1)):=by
 induction n with
 | zero=>rw[eu,sT,sT];grind
 | succ n ih=>rw[eu,ih,eu];grind
theorem KQ(l:List Rat)(j:Nat):fn (l.drop 1) j=fn l (j+1):=by
 unfold fn
 rw[List.getD,List.getD,List.getElem?_drop,Nat.add_comm]
section
variable {p:Prg} {v:Rat}
theorem yN{i:Nat}(hi:i<p.rows.length):(eT p v).row i=((p.row i).1.drop 1,(p.row i).2.1,(p.row i).2.2-fn (p.row i).1 0*v):=by
 rw[Prg.jF (List.getElem?_eq_getElem hi)]
 apply Prg.jF
 show (p.rows.map _)[i]? = _
 rw[List.getElem?_map,List.getElem?_eq_getElem hi];rfl
theorem abx(h:p.Ok)(hn:0<p.free.length):(eT p v).Ok:=by
 refine⟨by show (p.free.drop 1).length≤400;have:=h.gu;rw[List.length_drop];omega,by show (p.rows.map _).length≤800;rw[List.length_map];exact h.rows,fun i r hr=> ?_⟩
 have hr:(p.rows.map _)[i]? = some r:=hr
 rw[List.getElem?_map]at hr
 cases h0:p.rows[i]? with
 | none=>rw[h0]at hr;cases hr
 | some r0=>
  rw[h0]at hr
  cases hr
  have h1:=h.row i r0 h0
  refine⟨?_,h1.2⟩
  show (r0.1.drop 1).length=(p.free.drop 1).length
  rw[List.length_drop,List.length_drop,h1.1]
theorem KR(hn:0<p.free.length)(x:Nat→Rat)(gn:x 0=v)(hf:p.lp.free 0=false→0≤v):(eT p v).lp.cO 1 (fun j=>x (j+1))↔p.lp.cO 1 x:=by
 have en:(eT p v).lp.n+1=p.lp.n:=by show (p.free.drop 1).length+1=p.free.length;rw[List.length_drop];omega
 have em:(eT p v).lp.m=p.lp.m:=by show (p.rows.map _).length=p.rows.length;rw[List.length_map]
 have ef:∀j,(eT p v).lp.free j=p.lp.free (j+1):=fun j=>by
  show (p.free.drop 1).getD j false=p.free.getD (j+1) false
  rw[List.getD,List.getD,List.getElem?_drop,Nat.add_comm]
 have key:∀i,i<p.rows.length→a5 (eT p v).lp.n ((eT p v).lp.a i) (fun j=>x (j+1))-(eT p v).lp.b i*1=a5 p.lp.n (p.lp.a i) x-p.lp.b i*1:=fun i hi=>by
  have e1:a5 p.lp.n (p.lp.a i) x=p.lp.a i 0*x 0+a5 (eT p v).lp.n ((eT p v).lp.a i) (fun j=>x (j+1)):=by
   unfold a5
   rw[←en,abw]
   congr 1
   refine ec fun j _=> ?_
   have:(eT p v).lp.a i j=p.lp.a i (j+1):=by
    show fn ((eT p v).row i).1 j=fn (p.row i).1 (j+1)
    rw[yN hi,KQ]
   rw[this]
  have e2:(eT p v).lp.b i=p.lp.b i-p.lp.a i 0*v:=by
   show ((eT p v).row i).2.2=_
   rw[yN hi];rfl
  rw[e1,e2,gn];grind
 have er:∀i,i<p.rows.length→(eT p v).lp.rel i=p.lp.rel i:=fun i hi=>by
  show ((eT p v).row i).2.1=(p.row i).2.1
  rw[yN hi]
 constructor
 ·intro h
  refine⟨fun j hj ib=> ?_,fun i hi=> ?_⟩
  ·cases j with
   | zero=>rw[gn];exact hf ib
   | succ j=>exact h.1 j (by omega) (by rw[ef];exact ib)
  ·have h1:=h.2 i (by rw[em];exact hi)
   rw[key i hi,er i hi]at h1;exact h1
 ·intro h
  refine⟨fun j hj ib=>h.1 (j+1) (by omega) (by rw[←ef];exact ib),fun i hi=> ?_⟩
  rw[em]at hi
  have h1:=h.2 i hi
  rw[key i hi,er i hi];exact h1
end
def Cp(n:Nat)(y x:Nat→Rat):Prop:=(∀j,j<n→y j=x j)∨∃j,j<n∧(∀i,i<j→y i=x i)∧y j<x j
structure pd(p:Prg)(y:List Rat):Prop where
 len:y.length=p.free.length
 meets:p.lp.cO 1 (fn y)
 least:∀x,p.lp.cO 1 x→Cp p.free.length (fn y) x
theorem aby(v:Rat)(y:List Rat):fn (v::y) 0=v:=rfl
theorem abz{p:Prg}(h:p.free = []){x:Nat→Rat}(hx:p.lp.cO 1 x):pd p []:=by
 have hn:p.lp.n=0:=by show p.free.length=0;rw[h];rfl
 refine⟨by rw[h];rfl,⟨fun j hj=>by omega,fun i hi=> ?_⟩,fun x _=> .inl fun j hj=>by rw[h]at hj;exact absurd hj (Nat.not_lt_zero _)⟩
 have h1:=hx.2 i hi
 have e:∀z,a5 p.lp.n (p.lp.a i) z=0:=fun z=>by rw[hn];rfl
 rw[e]at h1⊢;exact h1
theorem abA{p:Prg}{v:Rat}{y:List Rat}(hn:0<p.free.length)(hf:p.lp.free 0=false)(hv:0≤v)(F4:∀x,p.lp.cO 1 x→v≤x 0)(h:pd (eT p v) y):pd p (v::y):=by
 have hl:y.length=p.free.length-1:=by
  have:=h.len
  rw[this];show (p.free.drop 1).length=_;rw[List.length_drop]
 refine⟨by rw[List.length_cons];omega,(KR hn _ (aby v y) (fun _=>hv)).1 h.meets,fun x hx=> ?_⟩
 have h0:=F4 x hx
 by_cases e:v=x 0
 ·have h1:=h.least _ ((KR (v:=v) hn x e.symm (fun _=>hv)).2 hx)
  have e2:(eT p v).free.length=p.free.length-1:=by show (p.free.drop 1).length=_;rw[List.length_drop]
  rw[e2]at h1
  rcases h1 with h1 | ⟨j,hj,h1,h2⟩
  ·refine .inl fun j hj=> ?_
   cases j with
   | zero=>exact e
   | succ j=>exact h1 j (by omega)
  ·refine .inr ⟨j+1,by omega,fun i hi=> ?_,h2⟩
   cases i with
   | zero=>exact e
   | succ i=>exact h1 i (by omega)
 ·exact .inr ⟨0,hn,fun i hi=>absurd hi (Nat.not_lt_zero _),by show v<x 0;grind⟩
theorem abB{n:Nat}{x y:Nat→Rat}(h:Cp n x y)(k:Cp n y x):∀j,j<n→x j=y j:=by
 rcases h with h | ⟨j,hj,h1,h2⟩
 ·exact h
 ·rcases k with k | ⟨i,hi,k1,k2⟩
  ·exact fun j hj=>(k j hj).symm
  ·rcases Nat.lt_trichotomy i j with e | e | e
   ·have:=h1 i e;grind
   ·subst e;grind
   ·have:=k1 j e;grind
theorem KS{p q:Prg}{y z:List Rat}(hy:pd p y)(hz:pd q z)(hn:p.free.length=q.free.length)(h1:q.lp.cO 1 (fn y))(h2:p.lp.cO 1 (fn z)):y=z:=by
 have h3:=hy.least _ h2
 have h4:=hz.least _ h1
 rw[←hn]at h4
 have h5:=abB h3 h4
 apply List.ext_getElem?
 intro j
 by_cases hj:j<p.free.length
 ·have:=h5 j hj
  have g1:y[j]? = some (y[j]'(by rw[hy.len];exact hj)):=List.getElem?_eq_getElem _
  have g2:z[j]? = some (z[j]'(by rw[hz.len,←hn];exact hj)):=List.getElem?_eq_getElem _
  rw[iu g1,iu g2]at this
  rw[g1,g2,this]
 ·rw[List.getElem?_eq_none (by rw[hy.len];omega),List.getElem?_eq_none (by rw[hz.len];omega)]
end Lp
