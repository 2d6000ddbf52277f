/- The lexicographically least vector, column after column (plain). -/
import Derived.Test.YtfjncmjbhfdnpaaGreatA14
set_option linter.unusedVariables false
namespace Lp
def ix(p:Prg)(v:Rat):Prg:=⟨p.free.drop 1,p.rows.map fun r=>(r.1.drop 1,r.2.1,r.2.2-fn r.1 0*v)⟩
theorem ak5(n:Nat)(f:Nat→Rat):bB (n+1) f=f 0+bB n (fun j=>f (j+1)):=by
 induction n with
 | zero=>rw[fZ,Bq,Bq];grind
 | succ n ih=>rw[fZ,ih,fZ];grind
theorem Uk(l:List Rat)(j:Nat):fn (l.drop 1) j=fn l (j+1):=by
 unfold fn
 rw[List.getD,List.getD,List.getElem?_drop,Nat.add_comm]
section
variable {p:Prg} {v:Rat}
theorem Fs{i:Nat}(hi:i<p.rows.length):(ix p v).row i=((p.row i).1.drop 1,(p.row i).2.1,(p.row i).2.2-fn (p.row i).1 0*v):=by
 rw[Prg.mc (List.getElem?_eq_getElem hi)]
 apply Prg.mc
 show (p.rows.map _)[i]? = _
 rw[List.getElem?_map,List.getElem?_eq_getElem hi];rfl
theorem ak6(h:p.Ok)(hn:0<p.free.length):(ix p v).Ok:=by
 refine⟨by show (p.free.drop 1).length≤400;have:=h.iG;rw[List.length_drop];omega,by show (p.rows.map _).length≤800;rw[List.length_map];exact h.rows,fun i r hr=> ?_⟩
 have hr:(p.rows.map _)[i]? = some r:=hr
 rw[List.getElem?_map]at hr
 cases h0:p.rows[i]? with
 | none=>rw[h0]at hr;cases hr
 | some r0=>
  rw[h0]at hr
  cases hr
  have h1:=h.row i r0 h0
  refine⟨?_,h1.2⟩
  show (r0.1.drop 1).length=(p.free.drop 1).length
  rw[List.length_drop,List.length_drop,h1.1]
theorem Ul(hn:0<p.free.length)(x:Nat→Rat)(jo:x 0=v)(hf:p.lp.free 0=false→0≤v):(ix p v).lp.dY 1 (fun j=>x (j+1))↔p.lp.dY 1 x:=by
 have en:(ix p v).lp.n+1=p.lp.n:=by show (p.free.drop 1).length+1=p.free.length;rw[List.length_drop];omega
 have em:(ix p v).lp.m=p.lp.m:=by show (p.rows.map _).length=p.rows.length;rw[List.length_map]
 have ef:∀j,(ix p v).lp.free j=p.lp.free (j+1):=fun j=>by
  show (p.free.drop 1).getD j false=p.free.getD (j+1) false
  rw[List.getD,List.getD,List.getElem?_drop,Nat.add_comm]
 have key:∀i,i<p.rows.length→bN (ix p v).lp.n ((ix p v).lp.a i) (fun j=>x (j+1))-(ix p v).lp.b i*1=bN p.lp.n (p.lp.a i) x-p.lp.b i*1:=fun i hi=>by
  have e1:bN p.lp.n (p.lp.a i) x=p.lp.a i 0*x 0+bN (ix p v).lp.n ((ix p v).lp.a i) (fun j=>x (j+1)):=by
   unfold bN
   rw[←en,ak5]
   congr 1
   refine eS fun j _=> ?_
   have:(ix p v).lp.a i j=p.lp.a i (j+1):=by
    show fn ((ix p v).row i).1 j=fn (p.row i).1 (j+1)
    rw[Fs hi,Uk]
   rw[this]
  have e2:(ix p v).lp.b i=p.lp.b i-p.lp.a i 0*v:=by
   show ((ix p v).row i).2.2=_
   rw[Fs hi];rfl
  rw[e1,e2,jo];grind
 have er:∀i,i<p.rows.length→(ix p v).lp.rel i=p.lp.rel i:=fun i hi=>by
  show ((ix p v).row i).2.1=(p.row i).2.1
  rw[Fs hi]
 constructor
 ·intro h
  refine⟨fun j hj oM=> ?_,fun i hi=> ?_⟩
  ·cases j with
   | zero=>rw[jo];exact hf oM
   | succ j=>exact h.1 j (by omega) (by rw[ef];exact oM)
  ·have h1:=h.2 i (by rw[em];exact hi)
   rw[key i hi,er i hi]at h1;exact h1
 ·intro h
  refine⟨fun j hj oM=>h.1 (j+1) (by omega) (by rw[←ef];exact oM),fun i hi=> ?_⟩
  rw[em]at hi
  have h1:=h.2 i hi
  rw[key i hi,er i hi];exact h1
end
def NS(n:Nat)(y x:Nat→Rat):Prop:=(∀j,j<n→y j=x j)∨∃j,j<n∧(∀i,i<j→y i=x i)∧y j<x j
structure uG(p:Prg)(y:List Rat):Prop where
 len:y.length=p.free.length
 meets:p.lp.dY 1 (fn y)
 least:∀x,p.lp.dY 1 x→NS p.free.length (fn y) x
theorem ak7(v:Rat)(y:List Rat):fn (v::y) 0=v:=rfl
theorem ak8{p:Prg}(h:p.free = []){x:Nat→Rat}(hx:p.lp.dY 1 x):uG p []:=by
 have hn:p.lp.n=0:=by show p.free.length=0;rw[h];rfl
 refine⟨by rw[h];rfl,⟨fun j hj=>by omega,fun i hi=> ?_⟩,fun x _=> .inl fun j hj=>by rw[h]at hj;exact absurd hj (Nat.not_lt_zero _)⟩
 have h1:=hx.2 i hi
 have e:∀z,bN p.lp.n (p.lp.a i) z=0:=fun z=>by rw[hn];rfl
 rw[e]at h1⊢;exact h1
theorem ak9{p:Prg}{v:Rat}{y:List Rat}(hn:0<p.free.length)(hf:p.lp.free 0=false)(hv:0≤v)(NT:∀x,p.lp.dY 1 x→v≤x 0)(h:uG (ix p v) y):uG p (v::y):=by
 have hl:y.length=p.free.length-1:=by
  have:=h.len
  rw[this];show (p.free.drop 1).length=_;rw[List.length_drop]
 refine⟨by rw[List.length_cons];omega,(Ul hn _ (ak7 v y) (fun _=>hv)).1 h.meets,fun x hx=> ?_⟩
 have h0:=NT x hx
 by_cases e:v=x 0
 ·have h1:=h.least _ ((Ul (v:=v) hn x e.symm (fun _=>hv)).2 hx)
  have e2:(ix p v).free.length=p.free.length-1:=by show (p.free.drop 1).length=_;rw[List.length_drop]
  rw[e2]at h1
  rcases h1 with h1 | ⟨j,hj,h1,h2⟩
  ·refine .inl fun j hj=> ?_
   cases j with
   | zero=>exact e
   | succ j=>exact h1 j (by omega)
  ·refine .inr ⟨j+1,by omega,fun i hi=> ?_,h2⟩
   cases i with
   | zero=>exact e
   | succ i=>exact h1 i (by omega)
 ·exact .inr ⟨0,hn,fun i hi=>absurd hi (Nat.not_lt_zero _),by show v<x 0;grind⟩
theorem ala{n:Nat}{x y:Nat→Rat}(h:NS n x y)(k:NS n y x):∀j,j<n→x j=y j:=by
 rcases h with h | ⟨j,hj,h1,h2⟩
 ·exact h
 ·rcases k with k | ⟨i,hi,k1,k2⟩
  ·exact fun j hj=>(k j hj).symm
  ·rcases Nat.lt_trichotomy i j with e | e | e
   ·have:=h1 i e;grind
   ·subst e;grind
   ·have:=k1 j e;grind
theorem alb{p q:Prg}{y z:List Rat}(hy:uG p y)(hz:uG q z)(hn:p.free.length=q.free.length)(h1:q.lp.dY 1 (fn y))(h2:p.lp.dY 1 (fn z)):y=z:=by
 have h3:=hy.least _ h2
 have h4:=hz.least _ h1
 rw[←hn]at h4
 have h5:=ala h3 h4
 apply List.ext_getElem?
 intro j
 by_cases hj:j<p.free.length
 ·have:=h5 j hj
  have g1:y[j]? = some (y[j]'(by rw[hy.len];exact hj)):=List.getElem?_eq_getElem _
  have g2:z[j]? = some (z[j]'(by rw[hz.len,←hn];exact hj)):=List.getElem?_eq_getElem _
  rw[mb g1,mb g2]at this
  rw[g1,g2,this]
 ·rw[List.getElem?_eq_none (by rw[hy.len];omega),List.getElem?_eq_none (by rw[hz.len];omega)]
end Lp
