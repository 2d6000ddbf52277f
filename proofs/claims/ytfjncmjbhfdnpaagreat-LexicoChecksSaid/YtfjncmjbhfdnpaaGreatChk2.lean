/- Walks over package amortcostref22, part 2: CheckOptimal, CheckInfeasible, CheckUnbounded, Check. -/
import Derived.Test.YtfjncmjbhfdnpaaGreatA10
import Derived.Test.YtfjncmjbhfdnpaaGreatChk1
set_option linter.unusedVariables false
namespace Go.ay
open Go.Proofs Num Lp
theorem aei{p q:Rat}:gQ p q<0↔p<q:=by unfold gQ;split;(constructor <;> intro <;> grind);split;(constructor <;> intro <;> grind);(constructor <;> intro <;> grind)
theorem aej{p q:Rat}:0<gQ p q↔q<p:=by unfold gQ;split;(constructor <;> intro <;> grind);split;(constructor <;> intro <;> grind);(constructor <;> intro <;> grind)
theorem Ur{p:Prg}{x:List Rat}{N j:Nat}{H:Heap}{v:Value}(hp:cN N H v p)(aP:p.Ok)(hj:j<p.free.length)(hx:∀q,q∈x→aJ q≤N+2)(cj:x.length=p.rows.length)(hN:N≤400000000):aJ (p.lp.dQ (fn x) j)≤900000000000:=by
 have hm:=aP.rows
 have s9:=hp.ec
 have h1:=Bk (f:=fn x) (g:=fun k=>p.lp.a k j) (s:=N+2) (n:=p.rows.length) (fun k hk=>⟨sD hx (by omega),by
  have h9:=s9 _ (List.getElem_mem hk)
  have h8:p.row k=p.rows[k]:=Prg.gu (List.getElem?_eq_getElem hk)
  show aJ (fn (p.row k).1 j)≤_;rw[h8];exact sD h9.1 (by have h7:=(aP.row k _ (List.getElem?_eq_getElem hk)).1;omega)⟩) p.rows.length (Nat.le_refl _)
 have h2:=FG (n:=p.rows.length) (s:=N+2) (by omega) (Nat.le_refl _) hN (Nat.le_refl _)
 exact Nat.le_trans h1 (by omega)
theorem Us{p:Prg}{x:List Rat}{N:Nat}{H:Heap}{v:Value}(hp:cN N H v p)(aP:p.Ok)(hx:∀q,q∈x→aJ q≤N+2)(cj:x.length=p.rows.length)(hN:N≤400000000):aJ (p.lp.lZ (fn x))≤900000000000:=by
 have hm:=aP.rows
 have s9:=hp.ec
 have h1:=Bk (f:=fn x) (g:=p.lp.b) (s:=N+2) (n:=p.rows.length) (fun k hk=>⟨sD hx (by omega),by
  have h9:=s9 _ (List.getElem_mem hk)
  have h8:p.row k=p.rows[k]:=Prg.gu (List.getElem?_eq_getElem hk)
  show aJ (p.row k).2.2≤_;rw[h8];exact h9.2⟩) p.rows.length (Nat.le_refl _)
 have h2:=FG (n:=p.rows.length) (s:=N+2) (by omega) (Nat.le_refl _) hN (Nat.le_refl _)
 exact Nat.le_trans h1 (by omega)
theorem FL{l1 l2:List Rat}{N:Nat}(h1:∀q,q∈l1→aJ q≤N+2)(h2:∀q,q∈l2→aJ q≤N+2)(hl:l1.length=l2.length)(hn:l1.length≤1000)(hN:N≤400000000):aJ (aX l1.length (fn l1) (fn l2))≤900000000000:=by
 have jI:=sZ (M:=N+2) l1.length (fn l1) (fn l2) (fun j hj=>h1 _ (lI hj)) (fun j hj=>h2 _ (lI (by omega)))
 have iK:l1.length*(2*(N+2)+2)≤1000*(2*(N+2)+2):=Nat.mul_le_mul_right _ (by omega)
 omega
theorem aek{H:Heap}{v yv:Value}{p:Prg}{y:List Rat}{N:Nat}(hp:cN N H v p)(hy:aC (aS N) 3 H yv y)(hN:N≤400000000):
 Fn Tryz.prog 94 #[v,yv] H (fun v H'=>Heap.le H H'∧∃b,v = .bool b∧(b=true↔AV p y)):=by
 obtain⟨fv,fG,rfl,cB,cF⟩:=id hp
 obtain⟨Af,cf,xf,rfl,ea,eH⟩:=cB.one
 obtain⟨Ar,cr,xr,rfl,fO,cL,du⟩:=cF
 obtain⟨AY,cY,xY,rfl,Ut,uM,uN⟩:=id hy
 have FM:=hy.ec;refine aU (args:=[_,_]) Tryz.func94 rfl rfl Tryz.ntmps94 rfl rfl fun w0=> ?_;refine ag [0,1] rfl ?_;refine ae ?_;refine bF rfl rfl ?_;refine vr 1 ?_;refine ab [1,2] ?_;refine al ?_;refine ae ?_;refine vr 1 ?_;refine ar rfl rfl (Jh hp) ?_;rintro _ H1 ⟨e1,b1,rfl,di⟩;rw[e1]
 cases b1
 ·
  skip
  refine vr 7 ?_;refine ab [1,2,15] ?_;refine cD rfl ?_;refine ae ?_;refine vr 1 ?_;refine ab [4] ?_;refine aq ⟨.inr rfl,_,.tmp rfl (.nil),?_⟩;exact⟨.refl _,false,rfl,⟨(fun h=>by cases h),fun h=>by have h9:=di.2 h.ok;cases h9⟩⟩
 ·
  skip
  refine vr 2 ?_;have aP:=di.1 rfl;have dY:=aP.dR;have iQ:=aP.rows;refine vr 2 ?_;refine ar rfl rfl (Un hp hy (by omega) hN) ?_;rintro _ H2 ⟨aM,b2,rfl,aW⟩;refine vr 2 ?_;refine ab [1,2,15] ?_;refine az rfl (fun hb=> ?_) (fun hb=> ?_)
  ·
   have gV:b2=false:=by simpa using hb
   subst gV;refine ae ?_;refine vr 1 ?_;refine ab [4] ?_;refine aq ⟨.inr rfl,_,.tmp rfl (.nil),?_⟩;exact⟨aM,false,rfl,⟨(fun h=>by cases h),fun h=>by have h9:=aW.2 ⟨h.sC,h.cert.signed⟩;cases h9⟩⟩
  ·
   have jK:b2=true:=by simpa using hb
   subst jK;obtain⟨gi,eC⟩:=aW.1 rfl;refine aw ?_;refine ag [1,2] rfl ?_;refine al ?_;refine ae ?_;refine vr 4 ?_;refine ab [1,2,18,19] ?_;refine aD ?_;refine ft (fun(j:Nat)=>p.free.length-j) (fun(j:Nat)=>put (put (put (put (emp) 1 (.val (.slice AY y.length cY))) 2 (.box [.slice Af p.free.length cf,.slice Ar p.rows.length cr])) 18 (.val (.int .i64 (p.free.length:Int)))) 19 (.val (.int .i64 (j:Int)))) (fun(j:Nat) H'=>Heap.le H H'∧(∀k,k<j→p.lp.dQ (fn y) k≤0∧(p.lp.free k=true→0≤p.lp.dQ (fn y) k))∧j≤p.free.length) 0 (⟨aM,(fun k h=>by omega),Nat.zero_le _⟩) au ?_;rintro j H3 ⟨a7,cO,hj⟩;refine ae ?_;refine vr 1 ?_;refine ab [1,2,18,19,20] ?_;refine al ?_;refine az rfl (fun hb=> ?_) (fun hb=> ?_)
   ·
    have mo:j<p.free.length:=by simpa using hb
    obtain⟨b,lY⟩:∃b,p.free[j]? = some b:=⟨_,List.getElem?_eq_getElem mo⟩;obtain⟨u,hu,s8⟩:=eH j b lY
    cases s8
    have fC:=Prg.yq lY;have sM:=Ur hp aP mo FM gi hN;refine aw ?_;refine ag [1,2,18,19] rfl ?_;refine al ?_;refine aD ?_;refine ae ?_;refine vr 2 ?_;refine ab [1,2,5,18,19] ?_;refine ae ?_;refine vr 3 ?_;refine ar rfl rfl (Uq aP mo (hp.le a7) (hy.le (a8 N) a7) (by omega) gi hN) ?_;rintro _ H4 ⟨bE,t4,rfl,bR⟩;refine ar rfl rfl (Bz ((cJ.raw bR).mono sM) (by decide)) ?_;rintro _ H5 ⟨cA,rfl⟩;refine vr 1 ?_;refine ab [1,2,5,6,18,19] ?_
    by_cases h1:0<dF (p.lp.dQ (fn y) j)
    ·
     skip
     refine ae ?_;refine vr 1 ?_;refine ax true rfl rfl (iG h1) ?_;refine vr 11 ?_;refine ab [1,2,18,19,39] ?_;refine cD rfl ?_;refine ae ?_;refine vr 1 ?_;refine ab [4] ?_;refine aq ⟨.inr rfl,_,.tmp rfl (.nil),?_⟩;exact⟨a7.trans (bE.trans cA),false,rfl,⟨(fun h=>by cases h),fun h=>by have h9:=nC.2 (h.cert.dR j mo).1;omega⟩⟩
    ·
     skip
     cases b
     ·
      skip
      refine ae ?_;refine vr 1 ?_;refine ax false rfl rfl (fN (by omega)) ?_;refine vr 4 ?_;refine a6 af rfl rfl rfl rfl rfl (ea.le (a7.trans (bE.trans cA))) (by rw[Int.toNat_natCast];exact hu) (by omega) (by omega) fun _=> ?_;refine vr 5 ?_;refine ab [1,2,18,19,39] ?_;refine dg rfl ?_;refine aw ?_;refine ag [1,2,18,19] rfl ?_;refine aE rfl ?_;refine aN rfl rfl ⟨by omega,by omega⟩ ?_;refine vr 1 ?_;refine aA ?_;exact⟨j+1,by omega,au,a7.trans (bE.trans cA),(fun k hk=>by by_cases h9:k<j;exact cO k h9;(obtain rfl:k=j:=by omega);exact⟨nC.1 (by omega),fun e=>by rw[fC]at e;cases e⟩),by omega⟩
     ·
      skip
      by_cases h2:dF (p.lp.dQ (fn y) j)<0
      ·
       skip
       refine ae ?_;refine vr 1 ?_;refine ax false rfl rfl (fN (by omega)) ?_;refine vr 4 ?_;refine a6 af rfl rfl rfl rfl rfl (ea.le (a7.trans (bE.trans cA))) (by rw[Int.toNat_natCast];exact hu) (by omega) (by omega) fun _=> ?_;refine vr 2 ?_;refine ax true rfl rfl (mA h2) ?_;refine vr 2 ?_;refine ab [1,2,18,19,39] ?_;refine cD rfl ?_;refine ae ?_;refine vr 1 ?_;refine ab [4] ?_;refine aq ⟨.inr rfl,_,.tmp rfl (.nil),?_⟩;exact⟨a7.trans (bE.trans cA),false,rfl,⟨(fun h=>by cases h),fun h=>by have h9:=kV.2 ((h.cert.dR j mo).2 fC);omega⟩⟩
      ·
       skip
       refine ae ?_;refine vr 1 ?_;refine ax false rfl rfl (fN (by omega)) ?_;refine vr 4 ?_;refine a6 af rfl rfl rfl rfl rfl (ea.le (a7.trans (bE.trans cA))) (by rw[Int.toNat_natCast];exact hu) (by omega) (by omega) fun _=> ?_;refine vr 2 ?_;refine ax false rfl rfl (jw (by omega)) ?_;refine vr 2 ?_;refine ab [1,2,18,19,39] ?_;refine dg rfl ?_;refine aw ?_;refine ag [1,2,18,19] rfl ?_;refine aE rfl ?_;refine aN rfl rfl ⟨by omega,by omega⟩ ?_;refine vr 1 ?_;refine aA ?_;exact⟨j+1,by omega,au,a7.trans (bE.trans cA),(fun k hk=>by by_cases h9:k<j;exact cO k h9;(obtain rfl:k=j:=by omega);exact⟨nC.1 (by omega),fun _=>kV.1 (by omega)⟩),by omega⟩
   ·
    have hb:p.free.length≤j:=by simpa using hb
    have NN:=Us hp aP FM gi hN;refine bB ?_;refine ag [1,2] rfl ?_;refine ae ?_;refine vr 2 ?_;refine ar rfl rfl (Uo (hp.le a7) (hy.le (a8 N) a7) (by omega) gi hN) ?_;rintro _ H4 ⟨bE,t4,rfl,bR⟩;refine ar rfl rfl (Bz ((cJ.raw bR).mono NN) (by decide)) ?_;rintro _ H5 ⟨cA,rfl⟩;refine vr 2 ?_;refine ab [4] ?_;refine aq ⟨.inr rfl,_,.tmp rfl (.nil),?_⟩;exact⟨a7.trans (bE.trans cA),_,rfl,by rw[decide_eq_true_iff,gt_iff_lt,HW];exact⟨fun h=>⟨aP,gi,eC,fun k hk=>cO k (Nat.lt_of_lt_of_le hk hb),h⟩,fun h=>h.cert.pos⟩⟩
theorem ael{H:Heap}{v cv xv yv:Value}{p:Prg}{c x y:List Rat}{N:Nat}(hp:cN N H v p)(hc:aC (aS N) 3 H cv c)(hx:aC (aS N) 3 H xv x)(hy:aC (aS N) 3 H yv y)(hN:N≤400000000):
 Fn Tryz.prog 166 #[v,cv,xv,yv] H (fun v H'=>Heap.le H H'∧∃b,v = .bool b∧(b=true↔sB p c x y)):=by
 obtain⟨fv,fG,rfl,cB,cF⟩:=id hp
 obtain⟨Af,cf,xf,rfl,ea,eH⟩:=cB.one
 obtain⟨Ar,cr,xr,rfl,fO,cL,du⟩:=cF
 obtain⟨AC,cC,xC,rfl,hcC,Cd,Ce⟩:=id hc
 have sM:=hc.ec
 obtain⟨AX,cX,xX,rfl,hcX,mR,mS⟩:=id hx
 have s7:=hx.ec
 obtain⟨AY,cY,xY,rfl,Ut,uM,uN⟩:=id hy
 have FM:=hy.ec;refine aU (args:=[_,_,_,_]) Tryz.func166 rfl rfl Tryz.ntmps166 rfl rfl fun w0=> ?_;refine ag [0,1,2,3] rfl ?_;refine ae ?_;refine bF rfl rfl ?_;refine vr 1 ?_;refine ab [1,2,3,4] ?_;refine al ?_;refine ae ?_;refine vr 2 ?_;refine ar rfl rfl (NJ hp hx hN) ?_;rintro _ H1 ⟨aI,b1,rfl,di⟩
 cases b1
 ·
  skip
  refine vr 15 ?_;refine ab [1,2,3,4,28] ?_;refine cD rfl ?_;refine ae ?_;refine vr 1 ?_;refine ab [8] ?_;refine aq ⟨.inr rfl,_,.tmp rfl (.nil),?_⟩;exact⟨aI,false,rfl,⟨(fun h=>by cases h),fun h=>by have h9:=di.2 h.dB;cases h9⟩⟩
 ·
  skip
  refine vr 2 ?_;have wY:=di.1 rfl;have aP:=wY.ok;have dY:=aP.dR;have iQ:=aP.rows;refine vr 5 ?_
  by_cases ej:c.length=p.free.length
  ·
   skip
   refine ax false rfl rfl (ko (by omega)) ?_;refine vr 4 ?_;refine ar rfl rfl (Un (hp.le aI) (hy.le (a8 N) aI) (by omega) hN) ?_;rintro _ H2 ⟨aM,b2,rfl,aW⟩;refine vr 2 ?_;refine ab [1,2,3,4,28] ?_;refine az rfl (fun hb=> ?_) (fun hb=> ?_)
   ·
    have gV:b2=false:=by simpa using hb
    subst gV;refine ae ?_;refine vr 1 ?_;refine ab [8] ?_;refine aq ⟨.inr rfl,_,.tmp rfl (.nil),?_⟩;exact⟨aI.trans aM,false,rfl,⟨(fun h=>by cases h),fun h=>by have h9:=aW.2 ⟨h.sC,h.cert.signed⟩;cases h9⟩⟩
   ·
    have jK:b2=true:=by simpa using hb
    subst jK;obtain⟨gi,eC⟩:=aW.1 rfl;have NO:=aI.trans aM;refine aw ?_;refine ag [1,2,3,4] rfl ?_;refine al ?_;refine ae ?_;refine vr 4 ?_;refine ab [1,2,3,4,31,32] ?_;refine aD ?_;refine ft (fun(j:Nat)=>p.free.length-j) (fun(j:Nat)=>put (put (put (put (put (put (emp) 1 (.val (.slice AC c.length cC))) 2 (.val (.slice AX x.length cX))) 3 (.val (.slice AY y.length cY))) 4 (.box [.slice Af p.free.length cf,.slice Ar p.rows.length cr])) 31 (.val (.int .i64 (p.free.length:Int)))) 32 (.val (.int .i64 (j:Int)))) (fun(j:Nat) H'=>Heap.le H H'∧(∀k,k<j→0≤fn c k-p.lp.dQ (fn y) k∧(p.lp.free k=true→fn c k-p.lp.dQ (fn y) k≤0))∧j≤p.free.length) 0 (⟨NO,(fun k h=>by omega),Nat.zero_le _⟩) au ?_;rintro j H3 ⟨a7,cO,hj⟩;refine ae ?_;refine vr 1 ?_;refine ab [1,2,3,4,31,32,33] ?_;refine al ?_;refine az rfl (fun hb=> ?_) (fun hb=> ?_)
    ·
     have mo:j<p.free.length:=by simpa using hb
     obtain⟨b,lY⟩:∃b,p.free[j]? = some b:=⟨_,List.getElem?_eq_getElem mo⟩;obtain⟨u,hu,s8⟩:=eH j b lY
     cases s8
     have fC:=Prg.yq lY;have sM:=Ur hp aP mo FM gi hN;obtain⟨q,dG⟩:∃q,c[j]? = some q:=⟨_,List.getElem?_eq_getElem (by omega)⟩;obtain⟨g5,B1,k1,e1,B2,k2,e2,FI,oP,gA⟩:=aC.jP Ce dG;have eO:=gq dG;refine aw ?_;refine ag [1,2,3,4,31,32] rfl ?_;refine al ?_;refine aD ?_;refine ae ?_;refine vr 2 ?_;refine ab [1,2,3,4,9,31,32] ?_;refine bL .bn [0,1,2,3,4,5,6,7,8,9] follows (by kernel_rfl) ?_;refine vr 2 ?_;refine cI (vs:=[.bool g5,.slice B1 k1 e1,.slice B2 k2 e2]) af rfl rfl rfl rfl (Cd.le a7) rfl (by decide) gA (by omega) (by omega) fun _=> ?_;refine vr 3 ?_;refine aH rfl rfl (Uq aP mo (hp.le a7) (hy.le (a8 N) a7) (by omega) gi hN) (fun _ _ h=>by first | exact h.le | exact h.1) ?_;rintro _ H4 ⟨bE,t4,rfl,bR⟩;refine aH rfl rfl (EA (N:=900000000000) (((oP.mono (by omega)).le a7).le bE) ((cJ.raw bR).mono sM) (by decide)) (fun _ _ h=>by first | exact h.le | exact h.1) ?_;rintro _ H5 ⟨cA,rfl⟩;refine vr 1 ?_;refine ab [1,2,3,4,9,10,31,32] ?_
     by_cases h1:gQ q (p.lp.dQ (fn y) j)<0
     ·
      skip
      refine ae ?_;refine vr 1 ?_;refine ax true rfl rfl (mA h1) ?_;refine vr 11 ?_;refine ab [1,2,3,4,31,32,56] ?_;refine cD rfl ?_;refine ae ?_;refine vr 1 ?_;refine ab [8] ?_;refine aq ⟨.inr rfl,_,.tmp rfl (.nil),?_⟩;exact⟨a7.trans (bE.trans cA),false,rfl,⟨(fun h=>by cases h),fun h=>by have h9:=(h.cert.dR j mo).1;rw[eO]at h9;have h8:=aei.1 h1;exfalso;grind⟩⟩
     ·
      skip
      cases b
      ·
       skip
       refine ae ?_;refine vr 1 ?_;refine ax false rfl rfl (jw (by omega)) ?_;refine vr 4 ?_;refine a6 af rfl rfl rfl rfl rfl (ea.le (a7.trans (bE.trans cA))) (by rw[Int.toNat_natCast];exact hu) (by omega) (by omega) fun _=> ?_;refine vr 5 ?_;refine ab [1,2,3,4,31,32,56] ?_;refine dg rfl ?_;refine aw ?_;refine ag [1,2,3,4,31,32] rfl ?_;refine aE rfl ?_;refine aN rfl rfl ⟨by omega,by omega⟩ ?_;refine vr 1 ?_;refine aA ?_;exact⟨j+1,by omega,au,a7.trans (bE.trans cA),(fun k hk=>by by_cases h9:k<j;exact cO k h9;(obtain rfl:k=j:=by omega);exact⟨by have h8:=ND.1 (show 0≤gQ q (p.lp.dQ (fn y) k) by omega);rw[eO];grind,fun e=>by rw[fC]at e;cases e⟩),by omega⟩
      ·
       skip
       by_cases h2:0<gQ q (p.lp.dQ (fn y) j)
       ·
        skip
        refine ae ?_;refine vr 1 ?_;refine ax false rfl rfl (jw (by omega)) ?_;refine vr 4 ?_;refine a6 af rfl rfl rfl rfl rfl (ea.le (a7.trans (bE.trans cA))) (by rw[Int.toNat_natCast];exact hu) (by omega) (by omega) fun _=> ?_;refine vr 2 ?_;refine ax true rfl rfl (iG h2) ?_;refine vr 2 ?_;refine ab [1,2,3,4,31,32,56] ?_;refine cD rfl ?_;refine ae ?_;refine vr 1 ?_;refine ab [8] ?_;refine aq ⟨.inr rfl,_,.tmp rfl (.nil),?_⟩;exact⟨a7.trans (bE.trans cA),false,rfl,⟨(fun h=>by cases h),fun h=>by have h9:=(h.cert.dR j mo).2 fC;rw[eO]at h9;have h8:=aej.1 h2;exfalso;grind⟩⟩
       ·
        skip
        refine ae ?_;refine vr 1 ?_;refine ax false rfl rfl (jw (by omega)) ?_;refine vr 4 ?_;refine a6 af rfl rfl rfl rfl rfl (ea.le (a7.trans (bE.trans cA))) (by rw[Int.toNat_natCast];exact hu) (by omega) (by omega) fun _=> ?_;refine vr 2 ?_;refine ax false rfl rfl (fN (by omega)) ?_;refine vr 2 ?_;refine ab [1,2,3,4,31,32,56] ?_;refine dg rfl ?_;refine aw ?_;refine ag [1,2,3,4,31,32] rfl ?_;refine aE rfl ?_;refine aN rfl rfl ⟨by omega,by omega⟩ ?_;refine vr 1 ?_;refine aA ?_;exact⟨j+1,by omega,au,a7.trans (bE.trans cA),(fun k hk=>by by_cases h9:k<j;exact cO k h9;(obtain rfl:k=j:=by omega);exact⟨by have h8:=ND.1 (show 0≤gQ q (p.lp.dQ (fn y) k) by omega);rw[eO];grind,fun _=>by have h8:=Ud.1 (show gQ q (p.lp.dQ (fn y) k)≤0 by omega);rw[eO];grind⟩),by omega⟩
    ·
     have hb:p.free.length≤j:=by simpa using hb
     have NN:=Us hp aP FM gi hN;have cj:=wY.len;have zp:=FL sM s7 (by omega) (by omega) hN;refine bB ?_;refine ag [1,2,3,4] rfl ?_;refine ae ?_;refine vr 2 ?_;refine ar rfl rfl (Uo (hp.le a7) (hy.le (a8 N) a7) (by omega) gi hN) ?_;rintro _ H4 ⟨bE,t4,rfl,bR⟩;refine vr 2 ?_;refine ar rfl rfl (FH ((hc.le (a8 N) a7).le (a8 N) bE) ((hx.le (a8 N) a7).le (a8 N) bE) (by omega) (by omega) hN) ?_;rintro _ H5 ⟨cA,t5,rfl,ja⟩;refine ar rfl rfl (EA (N:=900000000000) (((cJ.raw bR).mono NN).le cA) ((cJ.raw ja).mono zp) (by decide)) ?_;rintro _ H6 ⟨fh,rfl⟩;refine vr 2 ?_;refine ab [8] ?_;refine aq ⟨.inr rfl,_,.tmp rfl (.nil),?_⟩;exact⟨a7.trans (bE.trans (cA.trans fh)),_,rfl,by rw[beq_iff_eq,Ca];exact⟨fun h=>⟨wY,ej,gi,wY.meets,eC,fun k hk=>cO k (Nat.lt_of_lt_of_le hk hb),by rw[h,ej];rfl⟩,fun h=>by rw[h.cert.eq,ej];rfl⟩⟩
  ·
   skip
   refine ax true rfl rfl (kn (by omega)) ?_;refine vr 7 ?_;refine ab [1,2,3,4,28] ?_;refine cD rfl ?_;refine ae ?_;refine vr 1 ?_;refine ab [8] ?_;refine aq ⟨.inr rfl,_,.tmp rfl (.nil),?_⟩;exact⟨aI,false,rfl,⟨(fun h=>by cases h),fun h=>absurd h.wc ej⟩⟩
theorem aem{H:Heap}{v cv xv rv:Value}{p:Prg}{c x r:List Rat}{N:Nat}(hp:cN N H v p)(hc:aC (aS N) 3 H cv c)(hx:aC (aS N) 3 H xv x)(hr:aC (aS N) 3 H rv r)(hN:N≤400000000):
 Fn Tryz.prog 95 #[v,cv,xv,rv] H (fun v H'=>Heap.le H H'∧∃b,v = .bool b∧(b=true↔AW p c x r)):=by
 obtain⟨fv,fG,rfl,cB,cF⟩:=id hp
 obtain⟨Af,cf,xf,rfl,ea,eH⟩:=cB.one
 obtain⟨Ar,cr,xr,rfl,fO,cL,du⟩:=cF
 obtain⟨AC,cC,xC,rfl,hcC,Cd,Ce⟩:=id hc
 have sM:=hc.ec
 obtain⟨AX,cX,xX,rfl,hcX,mR,mS⟩:=id hx
 have s7:=hx.ec
 obtain⟨AY,cY,xY,rfl,Ut,uM,uN⟩:=id hr
 have s9:=hr.ec;refine aU (args:=[_,_,_,_]) Tryz.func95 rfl rfl Tryz.ntmps95 rfl rfl fun w0=> ?_;refine ag [0,1,2,3] rfl ?_;refine ae ?_;refine bF rfl rfl ?_;refine vr 1 ?_;refine ab [1,2,3,4] ?_;refine al ?_;refine ae ?_;refine vr 2 ?_;refine ar rfl rfl (NJ hp hx hN) ?_;rintro _ H1 ⟨aI,b1,rfl,di⟩
 cases b1
 ·
  skip
  refine vr 23 ?_;refine ab [1,3,4,36] ?_;refine cD rfl ?_;refine ae ?_;refine vr 1 ?_;refine ab [8] ?_;refine aq ⟨.inr rfl,_,.tmp rfl (.nil),?_⟩;exact⟨aI,false,rfl,⟨(fun h=>by cases h),fun h=>by have h9:=di.2 h.dB;cases h9⟩⟩
 ·
  skip
  refine vr 2 ?_;have wY:=di.1 rfl;have aP:=wY.ok;have dY:=aP.dR;have iQ:=aP.rows;refine vr 5 ?_
  by_cases ej:c.length=p.free.length
  ·
   skip
   refine ax false rfl rfl (ko (by omega)) ?_;refine vr 7 ?_
   by_cases lF:r.length=p.free.length
   ·
    skip
    refine ax false rfl rfl (ko (by omega)) ?_;refine vr 4 ?_;refine ar rfl rfl (Um (hp.le aI) (hr.le (a8 N) aI) (by omega) lF hN) ?_;rintro _ H2 ⟨aM,b2,rfl,aW⟩;refine vr 2 ?_;refine ab [1,3,4,36] ?_;refine az rfl (fun hb=> ?_) (fun hb=> ?_)
    ·
     have gV:b2=false:=by simpa using hb
     subst gV;refine ae ?_;refine vr 1 ?_;refine ab [8] ?_;refine aq ⟨.inr rfl,_,.tmp rfl (.nil),?_⟩;exact⟨aI.trans aM,false,rfl,⟨(fun h=>by cases h),fun h=>by have h9:=aW.2 h.cert.ray.1;cases h9⟩⟩
    ·
     have jK:b2=true:=by simpa using hb
     subst jK;have AT:=aW.1 rfl;have NO:=aI.trans aM;refine aw ?_;refine ag [1,3,4] rfl ?_;refine ae ?_;refine ar rfl rfl ((yN (n:=0) (by decide) (by decide)).rc) ?_;rintro _ H8 ⟨jt,t8,rfl,Ji⟩;rw[show ((0:Int):Rat)=0 from rfl]at Ji;refine bh cM rfl ?_;obtain⟨ti,aj,ak⟩:=bM;refine aG (.inl ⟨rfl,rfl⟩) rfl rfl rfl aj ak rfl rfl rfl ?_;refine ab [1,3,4,9] ?_;refine al ?_;refine ae ?_;refine vr 4 ?_;refine ab [1,3,4,9,40,41] ?_;refine aD ?_;refine ft (fun(i:Nat)=>p.rows.length-i) (fun(i:Nat)=>put (put (put (put (put (put (emp) 1 (.val (.slice AC c.length cC))) 3 (.val (.slice AY r.length cY))) 4 (.box [.slice Af p.free.length cf,.slice Ar p.rows.length cr])) 9 (.box [.bool t8.f,.slice t8.A1 t8.m1 t8.c1,.slice t8.A2 t8.m2 t8.c2])) 40 (.val (.int .i64 (p.rows.length:Int)))) 41 (.val (.int .i64 (i:Int)))) (fun(i:Nat) H'=>Heap.le H8 H'∧(∀k,k<i→kr (p.lp.rel k) (aX p.lp.n (p.lp.a k) (fn r)-p.lp.b k*0))∧i≤p.rows.length) 0 (⟨.refl _,(fun k h=>by omega),Nat.zero_le _⟩) au ?_;rintro i H9 ⟨gJ,cO,hi⟩;have a7:=(NO.trans jt).trans gJ;refine ae ?_;refine vr 1 ?_;refine ab [1,3,4,9,40,41,42] ?_;refine al ?_;refine az rfl (fun hb=> ?_) (fun hb=> ?_)
     ·
      have cQ:i<p.rows.length:=by simpa using hb
      obtain⟨Cf,dd⟩:∃r,p.rows[i]? = some r:=⟨_,List.getElem?_eq_getElem cQ⟩;obtain⟨A0,c0,f,A1,m1,c1,A2,m2,c2,eC,dS,eI,dL⟩:=aC.uL du dd;have lE:p.row i=Cf:=Prg.gu dd;have uj:=aP.row i Cf dd;have NK:Cf.1.length=p.free.length:=uj.1
      have iA:p.lp.rel i=Cf.2.1:=by show (p.row i).2.1=_;rw[lE]
      have FK:aX p.lp.n (p.lp.a i) (fn r)=aX Cf.1.length (fn Cf.1) (fn r):=by show aX p.free.length (fun j=>fn (p.row i).1 j) (fn r)=_;rw[lE,NK]
      have zo:p.lp.b i*0=0:=Rat.mul_zero _;have zp:=FL dS.ec s9 (by omega) (by omega) hN;refine aw ?_;refine ag [1,3,4,9,40,41] rfl ?_;refine al ?_;refine aD ?_;refine ae ?_;refine vr 2 ?_;refine ab [1,3,4,9,10,40,41] ?_;refine bL .bn [0,1,2,3,4,5,6,8,9,10,11,12,13,14,7,15,16] follows (by kernel_rfl) ?_;refine vr 3 ?_;refine ml af rfl rfl rfl rfl rfl rfl rfl (cL.le a7) (dL 0 _ rfl) (by omega) (by omega) fun _ _=> ?_;refine vr 4 ?_;refine ml af rfl rfl rfl rfl rfl rfl rfl (cL.le a7) (dL 1 _ rfl) (by omega) (by omega) fun _ _=> ?_;refine vr 1 ?_;refine aH rfl rfl (FH (dS.le (a8 N) a7) (hr.le (a8 N) a7) (by omega) (by omega) hN) (fun _ _ h=>by first | exact h.le | exact h.1) ?_;rintro _ H4 ⟨bE,t4,rfl,bR⟩;refine aH rfl rfl (Ul (a:=t4) (b:=t8) (N:=900000000000) ((cJ.raw bR).mono zp) ((((cJ.raw Ji).mono (by decide)).le gJ).le bE) (by decide) uj.2) (fun _ _ h=>by first | exact h.le | exact h.1) ?_;rintro _ H5 ⟨cA,b5,rfl,nJ⟩;refine vr 1 ?_;refine ab [1,3,4,9,40,41,60] ?_;refine az rfl (fun hb=> ?_) (fun hb=> ?_)
      ·
       have gV:b5=false:=by simpa using hb
       subst gV;refine ae ?_;refine vr 1 ?_;refine ab [8] ?_;refine aq ⟨.inr rfl,_,.tmp rfl (.nil),?_⟩;exact⟨a7.trans (bE.trans cA),false,rfl,⟨(fun h=>by cases h),fun h=>by have h9:=h.cert.ray.2 i cQ;rw[iA,FK,zo]at h9;have h8:=nJ.2 h9;cases h8⟩⟩
      ·
       have jK:b5=true:=by simpa using hb
       refine aw ?_;refine ag [1,3,4,9,40,41] rfl ?_;refine aE rfl ?_;refine aN rfl rfl ⟨by omega,by omega⟩ ?_;refine vr 1 ?_;refine aA ?_;exact⟨i+1,by omega,au,gJ.trans (bE.trans cA),(fun k hk=>by by_cases h9:k<i;exact cO k h9;(obtain rfl:k=i:=by omega);rw[iA,FK,zo];exact nJ.1 jK),by omega⟩
     ·
      have hb:p.rows.length≤i:=by simpa using hb
      have zp:=FL sM s9 (by omega) (by omega) hN;refine bB ?_;refine ag [1,3] rfl ?_;refine ae ?_;refine vr 2 ?_;refine ar rfl rfl (FH (hc.le (a8 N) a7) (hr.le (a8 N) a7) (by omega) (by omega) hN) ?_;rintro _ H4 ⟨bE,t4,rfl,bR⟩;refine ar rfl rfl (Bz ((cJ.raw bR).mono zp) (by decide)) ?_;rintro _ H5 ⟨cA,rfl⟩;refine vr 2 ?_;refine ab [8] ?_;refine aq ⟨.inr rfl,_,.tmp rfl (.nil),?_⟩;exact⟨a7.trans (bE.trans cA),_,rfl,by rw[decide_eq_true_iff,yE,ej];exact⟨fun h=>⟨wY,ej,lF,wY.meets,⟨AT,fun k hk=>cO k (Nat.lt_of_lt_of_le hk hb)⟩,h⟩,fun h=>h.cert.neg⟩⟩
   ·
    skip
    refine ax true rfl rfl (kn (by omega)) ?_;refine vr 7 ?_;refine ab [1,3,4,36] ?_;refine cD rfl ?_;refine ae ?_;refine vr 1 ?_;refine ab [8] ?_;refine aq ⟨.inr rfl,_,.tmp rfl (.nil),?_⟩;exact⟨aI,false,rfl,⟨(fun h=>by cases h),fun h=>absurd h.lD lF⟩⟩
  ·
   skip
   refine ax true rfl rfl (kn (by omega)) ?_;refine vr 15 ?_;refine ab [1,3,4,36] ?_;refine cD rfl ?_;refine ae ?_;refine vr 1 ?_;refine ab [8] ?_;refine aq ⟨.inr rfl,_,.tmp rfl (.nil),?_⟩;exact⟨aI,false,rfl,⟨(fun h=>by cases h),fun h=>absurd h.wc ej⟩⟩
end Go.ay
