/- Walks over package simplex, simplex.go, part 5: CheckInfeasible, CheckUnbounded. -/
import Derived.Test.YtfjncmjbhfdnpaaGreatA10
import Derived.Test.YtfjncmjbhfdnpaaGreatSmp4
set_option linter.unusedVariables false
namespace Go.ay
open Go.Proofs Num Lp
theorem V7{H:Heap}{v yv:Value}{p:Prg}{y:List Rat}{N:Nat}(hp:cN N H v p)(aP:p.Ok)(hy:aC (aS N) 3 H yv y)(gi:y.length=p.rows.length):(∀j,aJ (p.lp.dQ (fn y) j)≤800*(2*(N+2)+2)+1)∧aJ (p.lp.lZ (fn y))≤800*(2*(N+2)+2)+1:=by
 obtain⟨fv,fG,rfl,cB,cF⟩:=id hp
 obtain⟨Ar,cr,xr,rfl,cL,du⟩:=cF.row
 have r6:=hy.ec
 have iQ:=aP.rows
 have JO:∀(i:Nat)(r:List Rat×Int×Rat),p.rows[i]? = some r→∀q,q∈r.1→aJ q≤N+2:=fun i r hr=>by
  obtain⟨A0,c0,f,A1,m1,c1,A2,m2,c2,fU,dL⟩:=du i r hr
  exact eZ.size fU
 have h8:p.rows.length*(2*(N+2)+2)≤800*(2*(N+2)+2):=Nat.mul_le_mul_right _ iQ
 refine⟨fun j=> ?_,?_⟩
 ·have h9:=sZ (M:=N+2) p.rows.length (fn y) (fun k=>p.lp.a k j) (fun k hk=>r6 _ (lI (by omega))) (fun k hk=>Prg.Uc JO (by omega) k j (by omega))
  exact Nat.le_trans h9 (by omega)
 ·have h9:=sZ (M:=N+2) p.rows.length (fn y) p.lp.b (fun k hk=>r6 _ (lI (by omega))) (fun k hk=>by
   obtain⟨A0,c0,f,A1,m1,c1,A2,m2,c2,fU,dL⟩:=du k _ (List.getElem?_eq_getElem hk)
   have h7:=(eZ.bound fU).size
   show aJ (p.row k).2.2≤_
   rw[Prg.gu (List.getElem?_eq_getElem hk)];exact h7)
  exact Nat.le_trans h9 (by omega)
theorem ae5{H:Heap}{v yv:Value}{p:Prg}{y:List Rat}{N:Nat}(hp:cN N H v p)(hy:aC (aS N) 3 H yv y)(hN:N≤600000000):
 Fn Tryz.prog 90 #[v,yv] H (fun v H'=>Heap.le H H'∧∃b,v = .bool b∧(b=true↔AV p y)):=by
 obtain⟨fv,fG,rfl,cB,cF⟩:=id hp
 obtain⟨Af,cf,xf,rfl,ea,eH⟩:=cB.one
 obtain⟨Ar,cr,xr,rfl,cL,du⟩:=cF.row
 obtain⟨Ay,cy,xy,rfl,uM,uN⟩:=hy.rat;refine aU (args:=[_,_]) Tryz.func90 rfl rfl Tryz.ntmps90 rfl rfl fun w0=> ?_;refine ag [0,1] rfl ?_;refine ae ?_;refine bF rfl rfl ?_;refine vr 1 ?_;refine ab [1,2] ?_;refine al ?_
 by_cases aP:p.Ok
 ·
  skip
  refine ae ?_;refine vr 1 ?_;refine ar rfl rfl (OI hp aP) ?_;rintro v1 H1 ⟨e1,rfl⟩;rw[e1];refine vr 4 ?_;refine ar rfl rfl (V2 hp aP hy (by omega)) ?_;rintro v2 H2 ⟨aM,b2,rfl,aW⟩;refine vr 2 ?_;refine ab [1,2,18] ?_;refine az rfl (fun hb=> ?_) (fun hb=> ?_)
  ·
   have hb:¬(y.length=p.rows.length∧p.lp.Signed (fn y)):=fun h=>by have h9:=aW.2 h;rw[h9]at hb;simp at hb
   refine ae ?_;refine vr 1 ?_;refine ab [4] ?_;refine aq ⟨.inr rfl,_,.tmp rfl (.nil),?_⟩;exact⟨aM,false,rfl,⟨(fun h=>by cases h),(fun h=>absurd ⟨h.sC,h.cert.signed⟩ hb)⟩⟩
  ·
   have eC:=aW.1 (by simpa using hb);have dY:=aP.dR;have iQ:=aP.rows;obtain⟨jI,iK⟩:=V7 hp aP hy eC.1;refine aw ?_;refine ag [1,2] rfl ?_;refine ae ?_;refine vr 2 ?_;refine ar rfl rfl (V4 (hp.le aM) aP (hy.le (a8 N) aM) eC.1 hN) ?_;rintro v3 H3 ⟨a7,sv,ns,rfl,o0,ql⟩;obtain⟨n3,d3,b3,rfl⟩:=ql.cells;obtain⟨As,cs,xs,rfl,pW,vC⟩:=o0.num;rw[cS];refine vr 3 ?_;refine bh dT rfl ?_;refine vr 1 ?_;obtain⟨ti,aj,ak⟩:=bV;refine aG (.inl ⟨rfl,rfl⟩) rfl rfl rfl aj ak rfl rfl rfl ?_;refine ab [2,5,6] ?_;refine al ?_;refine ae ?_;refine vr 4 ?_;refine ab [5,6,26,27,28] ?_;refine aD ?_;refine ft (fun(i:Nat)=>p.free.length-i) (fun(i:Nat)=>put (put (put (put (put (emp) 5 (.val (.slice As p.free.length cs))) 6 (.box [.int .i64 n3,.int .i64 d3,.pointer b3])) 26 (.val (.slice Af p.free.length cf))) 27 (.val (.int .i64 (p.free.length:Int)))) 28 (.val (.int .i64 (i:Int)))) (fun(i:Nat) H'=>Heap.le H3 H'∧(∀k,k<i→p.lp.dQ (fn y) k≤0∧(p.lp.free k=true→0≤p.lp.dQ (fn y) k))∧i≤p.free.length) 0 (⟨.refl _,(fun j h=>by omega),Nat.zero_le _⟩) au ?_;rintro i H4 ⟨bE,cO,hi⟩;have pG:=(aM.trans a7).trans bE;refine ae ?_;refine vr 1 ?_;refine ab [5,6,26,27,28,29] ?_;refine al ?_;refine az rfl (fun hb=> ?_) (fun hb=> ?_)
   ·
    have gD:i<p.free.length:=by simpa using hb
    obtain⟨fb,fC⟩:∃fb,p.free[i]? = some fb:=⟨_,List.getElem?_eq_getElem gD⟩;obtain⟨uf,y6,y8⟩:=eH i fb fC
    cases y8
    have je:p.lp.free i=fb:=Prg.yq fC;obtain⟨n1,d1,b1,dO,ee⟩:=vC i _ (fp gD);have V8:=jI i;refine aw ?_;refine ag [5,6,26,27,28] rfl ?_;refine al ?_;refine aD ?_;refine ae ?_;refine vr 1 ?_;refine a6 af rfl rfl rfl rfl rfl (ea.le pG) (by rw[Int.toNat_natCast];exact y6) (by omega) (by omega) fun _=> ?_;refine vr 2 ?_;refine ab [5,6,7,8,26,27,28] ?_;refine ae ?_;refine vr 2 ?_;refine cI (vs:=[.int .i64 n1,.int .i64 d1,.pointer b1]) af rfl rfl rfl rfl (pW.le bE) rfl (by decide) ee (by omega) (by omega) fun _=> ?_;refine ar rfl rfl (iN (dO.le bE) (by omega)) ?_;rintro v5 H5 ⟨cA,rfl⟩;refine vr 1 ?_;refine ab [5,6,8,9,26,27,28] ?_
    by_cases hs:0<dF (p.lp.dQ (fn y) i)
    ·
     skip
     refine ae ?_;refine vr 1 ?_;refine ax true rfl rfl (iG hs) ?_;refine vr 7 ?_;refine ab [5,6,26,27,28,46] ?_;refine cD rfl ?_;refine ae ?_;refine vr 1 ?_;refine ab [4] ?_;refine aq ⟨.inr rfl,_,.tmp rfl (.nil),?_⟩;exact⟨pG.trans cA,false,rfl,⟨(fun h=>by cases h),(fun h=>by have h9:=nC.2 (h.cert.dR i gD).1;omega)⟩⟩
    ·
     have V9:=nC.1 (show dF (p.lp.dQ (fn y) i)≤0 by omega)
     cases fb
     ·
      skip
      refine ae ?_;refine vr 1 ?_;refine ax false rfl rfl (fN (by omega)) ?_;refine vr 7 ?_;refine ab [5,6,26,27,28,46] ?_;refine dg rfl ?_;refine aw ?_;refine ag [5,6,26,27,28] rfl ?_;refine aE rfl ?_;refine aN rfl rfl ⟨by omega,by omega⟩ ?_;refine vr 1 ?_;refine aA ?_;exact⟨i+1,by omega,au,bE.trans cA,(fun k hk=>by by_cases h9:k<i;exact cO k h9;(obtain rfl:k=i:=by omega);exact⟨V9,fun e=>by rw[je]at e;cases e⟩),by omega⟩
     ·
      skip
      by_cases eL:dF (p.lp.dQ (fn y) i)<0
      ·
       skip
       refine ae ?_;refine vr 1 ?_;refine ax false rfl rfl (fN (by omega)) ?_;refine vr 4 ?_;refine ax true rfl rfl (mA eL) ?_;refine vr 2 ?_;refine ab [5,6,26,27,28,46] ?_;refine cD rfl ?_;refine ae ?_;refine vr 1 ?_;refine ab [4] ?_;refine aq ⟨.inr rfl,_,.tmp rfl (.nil),?_⟩;exact⟨pG.trans cA,false,rfl,⟨(fun h=>by cases h),(fun h=>by have h9:=kV.2 ((h.cert.dR i gD).2 je);omega)⟩⟩
      ·
       skip
       refine ae ?_;refine vr 1 ?_;refine ax false rfl rfl (fN (by omega)) ?_;refine vr 4 ?_;refine ax false rfl rfl (jw (by omega)) ?_;refine vr 2 ?_;refine ab [5,6,26,27,28,46] ?_;refine dg rfl ?_;refine aw ?_;refine ag [5,6,26,27,28] rfl ?_;refine aE rfl ?_;refine aN rfl rfl ⟨by omega,by omega⟩ ?_;refine vr 1 ?_;refine aA ?_;exact⟨i+1,by omega,au,bE.trans cA,(fun k hk=>by by_cases h9:k<i;exact cO k h9;(obtain rfl:k=i:=by omega);exact⟨V9,fun _=>kV.1 (by omega)⟩),by omega⟩
   ·
    have hb:p.free.length≤i:=by simpa using hb
    refine bB ?_;refine ag [6] rfl ?_;refine ae ?_;refine vr 1 ?_;refine ar rfl rfl (iN (ql.le bE) (by omega)) ?_;rintro v6 H6 ⟨fh,rfl⟩;refine vr 2 ?_;refine ab [4] ?_;refine aq ⟨.inr rfl,_,.tmp rfl (.nil),?_⟩;exact⟨pG.trans fh,_,rfl,by simp only[decide_eq_true_eq,gt_iff_lt,HW];exact⟨fun h=>⟨aP,eC.1,⟨eC.2,fun j hj=>cO j (Nat.lt_of_lt_of_le hj hb),h⟩⟩,fun h=>h.cert.pos⟩⟩
 ·
  skip
  refine ae ?_;refine vr 1 ?_;refine ar rfl rfl (V1 hp aP) ?_;rintro v1 H1 ⟨e1,rfl⟩;rw[e1];refine vr 7 ?_;refine ab [1,2,18] ?_;refine cD rfl ?_;refine ae ?_;refine vr 1 ?_;refine ab [4] ?_;refine aq ⟨.inr rfl,_,.tmp rfl (.nil),?_⟩;exact⟨.refl _,false,rfl,⟨(fun h=>by cases h),(fun h=>absurd h.ok aP)⟩⟩
end Go.ay
