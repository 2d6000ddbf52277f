/- LexicoBelow: the law's walk. -/
import Derived.Test.YtgjimcieaecdkaaGreatA10
import Derived.Test.YtgjimcieaecdkaaGreatLw3
import Derived.Test.YtgjimcieaecdkaaGreatBef
import Derived.Test.YtgjimcieaecdkaaGreatAdr
import Derived.Test.YtgjimcieaecdkaaGreatSmp3
set_option linter.unusedVariables false
namespace Go.ar
open Go.Proofs Num Lp
theorem abS{H:Heap}{A:Option Addr}{xs ys:List Value}(h1:Rd H A xs)(h2:Rd H A ys)(hl:xs.length=ys.length):xs=ys:=by
 apply List.ext_getElem?
 intro i
 by_cases hi:i<xs.length
 ·have g1:xs[i]? = some xs[i]:=List.getElem?_eq_getElem hi
  have g2:ys[i]? = some (ys[i]'(by omega)):=List.getElem?_eq_getElem (by omega)
  obtain⟨a,e1,c1⟩:=h1 i _ g1
  obtain⟨b,e2,c2⟩:=h2 i _ g2
  rw[e1]at e2
  cases e2
  rw[c1]at c2
  rw[g1,g2,Option.some.inj c2]
 ·rw[List.getElem?_eq_none (by omega),List.getElem?_eq_none (by omega)]
theorem abT{α:Type}{P:List Value→α→Prop}{sz:Nat}{xs ys:List Value}{l k:List α}(h:bg P sz (xs++ys) (l++k))(hx:xs.length=l.length*sz):bg P sz xs l:=by
 have h1:=h.take (n:=l.length) (by rw[List.length_append];omega)
 rw[List.take_append_of_le_length (Nat.le_refl _),List.take_length,←hx,List.take_append_of_le_length (Nat.le_refl _),List.take_length]at h1
 exact h1
theorem abU{n:Nat}{y x:List Rat}(h:Cp n (fn y) (fn x))(hy:y.length=n)(hx:x.length=n):∀(i:Nat)(u w:Rat),y[i]? = some u→x[i]? = some w→(∀j,j<i→y[j]? = x[j]?)→u≤w:=by
 intro i u w hu hw heq
 have hi:=(List.getElem?_eq_some_iff.1 hu).1
 have rb:∀j,j<i→fn y j=fn x j:=fun j hj=>by unfold fn;rw[List.getD,List.getD,heq j hj]
 rw[←iu hu,←iu hw]
 rcases h with h | ⟨j,hj,h1,h2⟩
 ·rw[h i (by omega)];exact Rat.le_refl
 ·rcases Nat.lt_trichotomy i j with e | e | e
  ·rw[h1 i e];exact Rat.le_refl
  ·subst e;grind
  ·have:=rb j e;grind
def lE(p:Prg):List Rat:=0::1::p.rows.flatMap (·.1)
theorem abV{p:Prg}(a8:p.Ok)(hn:p.free.length≤4)(hm:p.rows.length≤5)(h1:∀r,r∈p.rows→(∀q,q∈r.1→ao.wt q≤126)∧ao.wt r.2.2≤126):Gb p (lE p) 400000 (2*ao.cC (p.rows.map (·.2.2))):=by
 have hr:∀r,r∈p.rows→r.1.length≤4:=fun r hr=>by
  obtain⟨i,hi⟩:=List.getElem?_of_mem hr
  have:=(a8.row i r hi).1;omega
 have hc:ao.cC (lE p)≤22*126:=by
  refine Nat.le_trans (KH (k:=126) fun q hq=> ?_) (Nat.mul_le_mul_right _ ?_)
  ·rcases List.mem_cons.1 hq with rfl | hq
   ·decide
   ·rcases List.mem_cons.1 hq with rfl | hq
    ·decide
    ·obtain⟨r,hr,hq⟩:=List.mem_flatMap.1 hq
     exact(h1 r hr).1 q hq
  ·have a1:=Rt hr
   have a3:p.rows.length*4≤5*4:=Nat.mul_le_mul_right _ hm
   simp only[lE,List.length_cons];omega
 have hb:ao.cC (p.rows.map (·.2.2))≤5*126:=by
  refine Nat.le_trans (KH (k:=126) fun q hq=> ?_) (Nat.mul_le_mul_right _ (by rw[List.length_map];exact hm))
  obtain⟨r,hr,rfl⟩:=List.mem_map.1 hq
  exact(h1 r hr).2
 refine⟨fun i hi j _=> ?_,by simp[lE],by simp[lE],⟨_,KW p⟩,?_,?_⟩
 ·have hi:i<p.rows.length:=hi
  show fn (p.row i).1 j∈_
  rw[Prg.jF (List.getElem?_eq_getElem hi)]
  exact KY (fun _ hq=>List.mem_cons_of_mem _ (List.mem_cons_of_mem _ (List.mem_flatMap.2 ⟨_,List.getElem_mem hi,hq⟩))) (List.mem_cons_self ..) j
 ·unfold e7
  have h9:2^p.rows.length≤2^5:=Nat.pow_le_pow_right (by decide) hm
  have h8:=Nat.mul_le_mul h9 (show 4*ao.cC (lE p)+p.rows.length+1≤4*(22*126)+5+1 by omega)
  have h7:2^5*(4*(22*126)+5+1)=355008:=by decide
  omega
 ·have h9:(p.free.length+1)*(400000+2*ao.cC (lE p)+1)≤5*(400000+2*(22*126)+1):=Nat.mul_le_mul (by omega) (by omega)
  omega
theorem dE.KZ{H:Heap}{v:Value}{p:Prg}(h:dE 2 H v p)(a8:p.Ok)(hn:p.free.length≤4)(hm:p.rows.length≤5):Gb p (lE p) 400000 (2*ao.cC (p.rows.map (·.2.2))):=
 abV a8 hn hm fun r hr=>⟨fun q hq=>Rw ((h.two r hr).1 q hq),Rw (h.two r hr).2⟩
theorem abm{H:Heap}{v xv:Value}{cs:List Value}{p:Prg}{x:List Rat}{r:List Rat×Int×Rat}{N:Nat}(hp:dE N H v p)(hx:aH (bJ N) 3 H xv x)(hr:ez N H cs r)(hlen:p.rows.length*88≤140737488351232):
 Fn Tryz.prog 4 #[v,xv,.agg (List.toArray cs)] H (fun v H'=>Heap.le H H'∧v = .bool true):=by
 obtain⟨fv,l7,rfl,eA,fa⟩:=id hp
 obtain⟨Af,cf,xf,rfl,kF,kG⟩:=eA.one
 obtain⟨Ar,cr,xr,rfl,iH,fQ,fA⟩:=id fa
 obtain⟨Ax,cx,xx,rfl,hcx,jK,hex⟩:=id hx
 obtain⟨A0,c0,k0,f,A1,m1,c1,A2,m2,c2,rfl,Dj⟩:=hr.cells;refine aW (args:=[_,_,_]) Tryz.func4 rfl rfl Tryz.ntmps4 rfl rfl fun w0=> ?_;refine aj [0,1,2] rfl ?_;refine af (bY rfl rfl (bY rfl rfl (ab 1 rfl (ae [1,3,5] ?_))));refine aq (af (au rfl rfl (abK) ?_));rintro _ H1 ⟨cn,rfl⟩;refine ab 1 rfl (ae [1,3,5,13] ?_);refine dG rfl (ax (aj [1,3,5] rfl ?_));refine cg .bR [0,1,2,3,5,4,6,7,8,9,10] follows (by kernel_rfl) ?_;refine ab 5 rfl (dY Tryz.underlying23 gU rfl rfl (mu H1 31 5) (fQ.le cn) fA.len (fA.Rj (abk N) (by decide)) (by omega) (by omega) ?_);intro v2 H2 kn;have tJ:=(Ck (P:=ez N) (e:=31) (sz:=5) H1).append (fO N) (k:=p.rows) (by simp) kn (by rw[qt,pS];exact fA.mono fun vs a=>fO N _ _ vs a cn);rw[List.nil_append,List.nil_append]at tJ;refine cU Tryz.underlying23 gU rfl rfl rfl rfl rfl rfl rfl ?_;intro gd ie;have qv:=tJ.ins (fO N) (whole (cz [.agg #[.slice A0 k0 c0,.int .i64 r.2.1,.bool f,.slice A1 m1 c1,.slice A2 m2 c2]]) 31) ie;refine dY Tryz.underlying23 gU rfl rfl qv.own (eH _ _ _ _ _ _) rfl (FR _ _ _ _ _ _ _ _ _ _ _) (by omega) (by omega) ?_;intro v4 H4 K1;have lF:=qv.append (fO N) (k:=[r]) (by simp) K1 (iq (fO N _ _ _ _ qv.base (fO N _ _ _ _ cn hr)) rfl)
 obtain⟨W,cw,rfl⟩:=lF.form;have hQ:dE N H4 (.agg #[.slice Af p.free.length cf,.slice W (p.rows ++ [r]).length cw]) (lC p r):=⟨_,_,rfl,eA.le qm (cn.trans lF.le),lF.sl (fO N)⟩;have eZ:=lF.le;have yQ:=cn.trans eZ;refine dH ag rfl oG rfl rfl (bD oG rfl ?_);obtain⟨ti,ak,al⟩:=qM;refine aM (.inl ⟨rfl,rfl⟩) rfl rfl rfl ak al rfl rfl rfl (ae [1,3,7] ?_);refine aq (af (ab 1 rfl (au rfl rfl (abG hQ (jL (P:=m9 N))) ?_)));rintro _ H5 ⟨e5,b5,rfl,I8⟩;rw[e5]
 cases b5
 ·
  skip
  refine ab 6 rfl (ae [1,3,7,30] ?_);refine eL rfl (af (ab 1 rfl (ae [6] ?_)));refine aw ⟨.inr rfl,_,.tmp rfl (.nil),?_⟩;exact⟨yQ,rfl⟩
 ·
  skip
  refine ab 3 rfl (au rfl rfl (KC (n:=5) (hx.le (cD N) yQ) (by decide)) ?_);rintro _ H6 ⟨e6,b6,rfl,I9⟩;rw[e6];refine ab 2 rfl (ae [1,3,7,30] ?_);refine az rfl (fun hb=> ?_) (fun hb=> ?_)
  ·
   skip
   refine af (ab 1 rfl (ae [6] ?_));refine aw ⟨.inr rfl,_,.tmp rfl (.nil),?_⟩;exact⟨yQ,rfl⟩
  have hk:=I8 rfl;obtain⟨yf,dQ⟩:=I9 (by simpa using hb);have ep:p.free.length≤4:=hk.Cq.gu
  have hm5:p.rows.length≤5:=by have h9:(p.rows ++ [r]).length≤5:=hk.Cq.rows;rw[List.length_append]at h9;omega
  have bF:=hk.Cq.prog
  have eI:dE 2 H4 (.agg #[.slice Af p.free.length cf,.slice Ar p.rows.length cr]) p:=by
   obtain⟨fv9,rv9,e9,hf9,A9,c9,x9,e8,Ou,jt,yc⟩:=id bF
   simp only[Value.agg.injEq,Array.mk.injEq]at e9
   obtain⟨rfl,rfl⟩:=e9
   simp only[Value.slice.injEq]at e8
   obtain⟨rfl,_,rfl⟩:=e8;have hu:=abS jt lF.own.rd (by rw[yc.len,lF.own.1];rfl);rw[hu]at yc;exact⟨_,_,rfl,hf9,⟨_,_,xr,rfl,iH,fQ.le yQ,abT (k:=[r]) yc fA.len⟩⟩
  refine ax (aj [1,3,7] rfl ?_);refine af (ab 1 rfl (au rfl rfl (F6 (N:=2) (l:=lE p) eI (by decide) (fun a8=>eI.KZ a8 ep hm5)) ?_));rintro _ H6 ⟨iQ,B6,k6,d6,er,rfl,abW⟩;refine ab 5 rfl (ae [1,3,7,8,9] ?_);refine aq (af (ab 2 rfl (ae [1,3,7,8,37] ?_)));refine az rfl (fun hb=> ?_) (fun hb=> ?_)
  ·
   skip
   refine af (ab 1 rfl (ae [6] ?_));refine aw ⟨.inr rfl,_,.tmp rfl (.nil),?_⟩;exact⟨yQ.trans iQ,rfl⟩
  have her:er=0:=by simpa using hb
  obtain⟨_,h9,_⟩ | ⟨_,_,h9,_⟩ | ⟨_,_,_,h9,_⟩ | ⟨a8,ib,_,y,hy,rM⟩:=abW
  ·omega
  ·omega
  ·omega
  obtain⟨A9,c9,_,e9,_⟩:=id rM
  cases e9
  have hpy:vf p y:=⟨a8,hy.len,hy.meets⟩;have jX:=(eI.le iQ).mono (show 2≤KX by decide);have kO:=hy.len;refine ax (aj [1,3,7,8] rfl ?_);refine aq (af (ab 2 rfl (au rfl rfl (Gc (N:=KX) jX rM (by omega) (by decide)) ?_)));rintro _ H7 ⟨fW,b7,rfl,hb7⟩;obtain rfl:b7=true:=hb7.2 hpy;refine ab 4 rfl (au rfl rfl (Gc (N:=2) ((eI.le iQ).le fW) ((dQ.le (cD 2) iQ).le (cD 2) fW) (by omega) (by decide)) ?_);rintro _ H8 ⟨ln,b8,rfl,Cu⟩;have RG:=yQ.trans (iQ.trans (fW.trans ln))
  cases b8
  ·
   have Cv:=RG;have Gd:=Heap.le.refl H8;refine ab 7 rfl (ae [7,8,52] ?_);refine dG rfl (ax (aj [7,8] rfl ?_));refine aq ?_;have wa:=fW.trans (ln.trans Gd);have ix:=(bF.le iQ).le wa;refine af (ab 2 rfl (au rfl rfl (Gc (N:=KX) (ix.mono (by decide)) (rM.le (cD KX) wa) (by omega) (by decide)) ?_));rintro _ ES ⟨m5,b10,rfl,EO⟩;refine ab 1 rfl (ae [7,8,56] ?_);refine az rfl (fun hb=> ?_) (fun hb=> ?_)
   ·
    skip
    refine af (ab 1 rfl (ae [6] ?_));refine aw ⟨.inr rfl,_,.tmp rfl (.nil),?_⟩;exact⟨Cv.trans m5,rfl⟩
   have wb:=EO.1 (by simpa using hb);have K2:(lC p r).free.length≤4:=ep;have K3:(lC p r).rows.length≤5:=hk.Cq.rows;refine ax (aj [7,8] rfl ?_);refine af (ab 1 rfl (au rfl rfl (F6 (N:=2) (l:=lE (lC p r)) (ix.le m5) (by decide) (fun a8=>(ix.le m5).KZ a8 K2 K3)) ?_));rintro _ mT ⟨yI,B11,k11,d11,e11,rfl,K4⟩;obtain⟨h9,_⟩ | ⟨_,h9,_⟩ | ⟨_,_,h9,_⟩ | ⟨abX,_,rfl,z,vT,oB⟩:=K4
   ·exact absurd wb.ok h9
   ·exact absurd h9 ib
   ·exact absurd wb.meets (h9 _)
   obtain⟨A11,c11,_,K5,_⟩:=id oB
   cases K5
   have K6:z=y:=(KS hy vT rfl wb.meets (Rg vT.meets)).symm;subst K6;refine ab 5 rfl (ae [8,10,11] ?_);refine af (ab 5 rfl (au rfl rfl (F9 (N:=KX) (((rM.le (cD KX) wa).le (cD KX) m5).le (cD KX) yI) oB (by omega) (by decide)) ?_));rintro _ dr ⟨yg,rfl⟩;refine ab 2 rfl (ae [6] ?_);refine aw ⟨.inr rfl,_,.tmp rfl (.nil),?_⟩;exact⟨Cv.trans (m5.trans (yI.trans yg)),rfl⟩
  skip
  refine ab 3 rfl (au rfl rfl (abg (N:=KX) (((rM.le (cD KX) fW).le (cD KX) ln)) ((((dQ.le (cD 2) iQ).le (cD 2) fW).le (cD 2) ln).mono fun _ _ h=>bJ.mono h (by decide)) (by omega) (abU (hy.least _ (Cu.1 rfl).meets) hy.len (Cu.1 rfl).len) (by decide)) ?_);rintro _ H9 ⟨Gd,z,rfl,K7⟩;have Cv:=RG.trans Gd;refine aS false rfl rfl (lO K7) (ab 2 rfl (ae [7,8,52] ?_));refine dG rfl (ax (aj [7,8] rfl ?_));refine aq ?_;have wa:=fW.trans (ln.trans Gd);have ix:=(bF.le iQ).le wa;refine af (ab 2 rfl (au rfl rfl (Gc (N:=KX) (ix.mono (by decide)) (rM.le (cD KX) wa) (by omega) (by decide)) ?_));rintro _ ES ⟨m5,b10,rfl,EO⟩;refine ab 1 rfl (ae [7,8,56] ?_);refine az rfl (fun hb=> ?_) (fun hb=> ?_)
  ·
   skip
   refine af (ab 1 rfl (ae [6] ?_));refine aw ⟨.inr rfl,_,.tmp rfl (.nil),?_⟩;exact⟨Cv.trans m5,rfl⟩
  have wb:=EO.1 (by simpa using hb);have K2:(lC p r).free.length≤4:=ep;have K3:(lC p r).rows.length≤5:=hk.Cq.rows;refine ax (aj [7,8] rfl ?_);refine af (ab 1 rfl (au rfl rfl (F6 (N:=2) (l:=lE (lC p r)) (ix.le m5) (by decide) (fun a8=>(ix.le m5).KZ a8 K2 K3)) ?_));rintro _ mT ⟨yI,B11,k11,d11,e11,rfl,K4⟩;obtain⟨h9,_⟩ | ⟨_,h9,_⟩ | ⟨_,_,h9,_⟩ | ⟨abX,_,rfl,z,vT,oB⟩:=K4
  ·exact absurd wb.ok h9
  ·exact absurd h9 ib
  ·exact absurd wb.meets (h9 _)
  obtain⟨A11,c11,_,K5,_⟩:=id oB
  cases K5
  have K6:z=y:=(KS hy vT rfl wb.meets (Rg vT.meets)).symm;subst K6;refine ab 5 rfl (ae [8,10,11] ?_);refine af (ab 5 rfl (au rfl rfl (F9 (N:=KX) (((rM.le (cD KX) wa).le (cD KX) m5).le (cD KX) yI) oB (by omega) (by decide)) ?_));rintro _ dr ⟨yg,rfl⟩;refine ab 2 rfl (ae [6] ?_);refine aw ⟨.inr rfl,_,.tmp rfl (.nil),?_⟩;exact⟨Cv.trans (m5.trans (yI.trans yg)),rfl⟩
end Go.ar
