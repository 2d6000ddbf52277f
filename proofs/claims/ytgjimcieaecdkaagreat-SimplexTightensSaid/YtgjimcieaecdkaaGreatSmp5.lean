/- Walks over package simplex, simplex.go, part 5: CheckInfeasible, CheckUnbounded. -/
import Derived.Test.YtgjimcieaecdkaaGreatA10
import Derived.Test.YtgjimcieaecdkaaGreatSmp4
set_option linter.unusedVariables false
namespace Go.au
open Go.Proofs Num Lp
theorem Pw{H:Heap}{v yv:Value}{p:Prg}{y:List Rat}{N:Nat}(hp:dN N H v p)(bx:p.Ok)(hy:aM (ca N) 3 H yv y)(iF:y.length=p.rows.length):(∀j,aC (p.lp.dP (fn y) j)≤800*(2*(N+2)+2)+1)∧aC (p.lp.kJ (fn y))≤800*(2*(N+2)+2)+1:=by
 obtain⟨fv,j8,rfl,eu,ew⟩:=id hp
 obtain⟨Ar,cr,xr,rfl,fy,eW⟩:=ew.row
 have oT:=hy.gT
 have qD:=bx.rows
 have Em:∀(i:Nat)(r:List Rat×Int×Rat),p.rows[i]? = some r→∀q,q∈r.1→aC q≤N+2:=fun i r hr=>by
  obtain⟨A0,c0,f,A1,m1,c1,A2,m2,c2,eH,gS⟩:=eW i r hr
  exact ep.size eH
 have h8:p.rows.length*(2*(N+2)+2)≤800*(2*(N+2)+2):=Nat.mul_le_mul_right _ qD
 refine⟨fun j=> ?_,?_⟩
 ·have h9:=sw (M:=N+2) p.rows.length (fn y) (fun k=>p.lp.a k j) (fun k hk=>oT _ (my (by omega))) (fun k hk=>Prg.OT Em (by omega) k j (by omega))
  exact Nat.le_trans h9 (by omega)
 ·have h9:=sw (M:=N+2) p.rows.length (fn y) p.lp.b (fun k hk=>oT _ (my (by omega))) (fun k hk=>by
   obtain⟨A0,c0,f,A1,m1,c1,A2,m2,c2,eH,gS⟩:=eW k _ (List.getElem?_eq_getElem hk)
   have h7:=(ep.bound eH).size
   show aC (p.row k).2.2≤_
   rw[Prg.l7 (List.getElem?_eq_getElem hk)];exact h7)
  exact Nat.le_trans h9 (by omega)
theorem ZW{H:Heap}{v yv:Value}{p:Prg}{y:List Rat}{N:Nat}(hp:dN N H v p)(hy:aM (ca N) 3 H yv y)(hN:N≤600000000):
 Fn Tryz.prog 57 #[v,yv] H (fun v H'=>Heap.le H H'∧∃b,v = .bool b∧(b=true↔CC p y)):=by
 obtain⟨fv,j8,rfl,eu,ew⟩:=id hp
 obtain⟨Af,cf,xf,rfl,iR,iS⟩:=eu.one
 obtain⟨Ar,cr,xr,rfl,fy,eW⟩:=ew.row
 obtain⟨Ay,cy,xy,rfl,uX,uY⟩:=hy.rat;refine aU (args:=[_,_]) Tryz.func57 rfl rfl Tryz.ntmps57 rfl rfl fun w0=> ?_;refine ah [0,1] rfl ?_;refine ae (bR rfl rfl (aa 1 rfl (ab [1,2] ?_)));refine ao ?_
 by_cases bx:p.Ok
 ·
  skip
  refine ae (aa 1 rfl (aq rfl rfl (AU hp bx) ?_));rintro v1 H1 ⟨e1,rfl⟩;rw[e1];refine aa 4 rfl (aq rfl rfl (Po hp bx hy (by omega)) ?_);rintro v2 H2 ⟨aW,b2,rfl,cD⟩;refine aa 2 rfl (ab [1,2,18] ?_);refine az rfl (fun hb=> ?_) (fun hb=> ?_)
  ·
   have hb:¬(y.length=p.rows.length∧p.lp.Signed (fn y)):=fun h=>by have h9:=cD.2 h;rw[h9]at hb;simp at hb
   refine ae (aa 1 rfl (ab [4] ?_));refine ar ⟨.inr rfl,_,.tmp rfl (.nil),?_⟩;exact⟨aW,false,rfl,⟨(fun h=>by cases h),(fun h=>absurd ⟨h.Ga,h.cert.signed⟩ hb)⟩⟩
  ·
   have ga:=cD.1 (by simpa using hb);have eT:=bx.eZ;have qD:=bx.rows;obtain⟨jX,g8⟩:=Pw hp bx hy ga.1;refine aw (ah [1,2] rfl ?_);refine ae (aa 2 rfl (aq rfl rfl (Pq (hp.le aW) bx (hy.le (fu N) aW) ga.1 hN) ?_));rintro v3 H3 ⟨dH,sv,ns,rfl,lS,m9⟩;obtain⟨n3,d3,b3,rfl⟩:=m9.cells;obtain⟨As,cs,xs,rfl,mR,q6⟩:=lS.num;rw[bV];refine aa 3 rfl (bG cN rfl (vr 1 ?_));obtain⟨ti,aj,ak⟩:=a9;refine aO (.inl ⟨rfl,rfl⟩) rfl rfl rfl aj ak rfl rfl rfl (ab [2,5,6] ?_);refine ao (ae (aa 4 rfl (ab [5,6,26,27,28] ?_)));refine aD (gm (fun(i:Nat)=>p.free.length-i) (fun(i:Nat)=>put (put (put (put (put (emp) 5 (.val (.slice As p.free.length cs))) 6 (.box [.int .i64 n3,.int .i64 d3,.pointer b3])) 26 (.val (.slice Af p.free.length cf))) 27 (.val (.int .i64 (p.free.length:Int)))) 28 (.val (.int .i64 (i:Int)))) (fun(i:Nat) H'=>Heap.le H3 H'∧(∀k,k<i→p.lp.dP (fn y) k≤0∧(p.lp.free k=true→0≤p.lp.dP (fn y) k))∧i≤p.free.length) 0 (⟨.refl _,(fun j h=>by omega),Nat.zero_le _⟩) av ?_);rintro i H4 ⟨dr,ec,hi⟩;have mz:=(aW.trans dH).trans dr;refine ae (aa 1 rfl (ab [5,6,26,27,28,29] ?_));refine ao (az rfl (fun hb=> ?_) (fun hb=> ?_))
   ·
    have eP:i<p.free.length:=by simpa using hb
    obtain⟨fb,gE⟩:∃fb,p.free[i]? = some fb:=⟨_,List.getElem?_eq_getElem eP⟩;obtain⟨uf,uK,uL⟩:=iS i fb gE
    cases uL
    have kg:p.lp.free i=fb:=Prg.CB gE;obtain⟨n1,d1,b1,cM,di⟩:=q6 i _ (dQ eP);have Px:=jX i;refine aw (ah [5,6,26,27,28] rfl ?_);refine ao (aD (ae (aa 1 rfl (a5 ag rfl rfl rfl rfl rfl (iR.le mz) (by rw[Int.toNat_natCast];exact uK) (by omega) (by omega) fun _=> ?_))));refine aa 2 rfl (ab [5,6,7,8,26,27,28] ?_);refine ae (aa 2 rfl (cQ (vs:=[.int .i64 n1,.int .i64 d1,.pointer b1]) ag rfl rfl rfl rfl (mR.le dr) rfl (by decide) di (by omega) (by omega) fun _=>(aq rfl rfl (fq (cM.le dr) (by omega)) ?_)));rintro v5 H5 ⟨cU,rfl⟩;refine aa 1 rfl (ab [5,6,8,9,26,27,28] ?_)
    by_cases hs:0<eE (p.lp.dP (fn y) i)
    ·
     skip
     refine ae (aa 1 rfl (ax true rfl rfl (jU hs) (aa 7 rfl (ab [5,6,26,27,28,46] ?_))));refine cI rfl (ae (aa 1 rfl (ab [4] ?_)));refine ar ⟨.inr rfl,_,.tmp rfl (.nil),?_⟩;exact⟨mz.trans cU,false,rfl,⟨(fun h=>by cases h),(fun h=>by have h9:=pa.2 (h.cert.eZ i eP).1;omega)⟩⟩
    have D8:=pa.1 (show eE (p.lp.dP (fn y) i)≤0 by omega)
    cases fb
    ·
     skip
     refine ae (aa 1 rfl (ax false rfl rfl (gD (by omega)) (aa 7 rfl (ab [5,6,26,27,28,46] ?_))));refine cP rfl (aw (ah [5,6,26,27,28] rfl ?_));refine aB rfl (aJ rfl rfl ⟨by omega,by omega⟩ (aa 1 rfl (ay ?_)));exact⟨i+1,by omega,av,dr.trans cU,(fun k hk=>by by_cases h9:k<i;exact ec k h9;(obtain rfl:k=i:=by omega);exact⟨D8,fun e=>by rw[kg]at e;cases e⟩),by omega⟩
    skip
    by_cases fN:eE (p.lp.dP (fn y) i)<0
    ·
     skip
     refine ae (aa 1 rfl (ax false rfl rfl (gD (by omega)) (aa 4 rfl (ax true rfl rfl (mP fN) (aa 2 rfl (ab [5,6,26,27,28,46] ?_))))));refine cI rfl (ae (aa 1 rfl (ab [4] ?_)));refine ar ⟨.inr rfl,_,.tmp rfl (.nil),?_⟩;exact⟨mz.trans cU,false,rfl,⟨(fun h=>by cases h),(fun h=>by have h9:=mc.2 ((h.cert.eZ i eP).2 kg);omega)⟩⟩
    skip
    refine ae (aa 1 rfl (ax false rfl rfl (gD (by omega)) (aa 4 rfl (ax false rfl rfl (jx (by omega)) (aa 2 rfl (ab [5,6,26,27,28,46] ?_))))));refine cP rfl (aw (ah [5,6,26,27,28] rfl ?_));refine aB rfl (aJ rfl rfl ⟨by omega,by omega⟩ (aa 1 rfl (ay ?_)));exact⟨i+1,by omega,av,dr.trans cU,(fun k hk=>by by_cases h9:k<i;exact ec k h9;(obtain rfl:k=i:=by omega);exact⟨D8,fun _=>mc.1 (by omega)⟩),by omega⟩
   have hb:p.free.length≤i:=by simpa using hb
   refine bA (ah [6] rfl ?_);refine ae (aa 1 rfl (aq rfl rfl (fq (m9.le dr) (by omega)) ?_));rintro v6 H6 ⟨gg,rfl⟩;refine aa 2 rfl (ab [4] ?_);refine ar ⟨.inr rfl,_,.tmp rfl (.nil),?_⟩;exact⟨mz.trans gg,_,rfl,by simp only[decide_eq_true_eq,gt_iff_lt,Gs];exact⟨fun h=>⟨bx,ga.1,⟨ga.2,fun j hj=>ec j (Nat.lt_of_lt_of_le hj hb),h⟩⟩,fun h=>h.cert.pos⟩⟩
 ·
  skip
  refine ae (aa 1 rfl (aq rfl rfl (IQ hp bx) ?_));rintro v1 H1 ⟨e1,rfl⟩;rw[e1];refine aa 7 rfl (ab [1,2,18] ?_);refine cI rfl (ae (aa 1 rfl (ab [4] ?_)));refine ar ⟨.inr rfl,_,.tmp rfl (.nil),?_⟩;exact⟨.refl _,false,rfl,⟨(fun h=>by cases h),(fun h=>absurd h.ok bx)⟩⟩
end Go.au
