/- Walks over package simplex, simplex.go, part 4: sums. -/
import Derived.Test.YtfjncmjbhfdnpaaGreatA10
import Derived.Test.YtfjncmjbhfdnpaaGreatSmp3
set_option linter.unusedVariables false
namespace Go.ay
open Go.Proofs Num Lp
theorem V3{H H':Heap}{z:Nat}{xs:List Value}{s e:Nat}(h:eD [] H H' z xs s e):Heap.le H (rem H' [z]):=by
 have:=h.le;rwa [gn]at this
theorem V4{H:Heap}{v yv:Value}{p:Prg}{y:List Rat}{N:Nat}(hp:cN N H v p)(aP:p.Ok)(hy:aC (aS N) 3 H yv y)(gi:y.length=p.rows.length)(hN:N≤600000000):
 Fn Tryz.prog 163 #[v,yv] H (fun v H'=>Heap.le H H'∧∃sv ns,v = .tuple #[sv,.agg ns.toArray]∧aC bo 3 H' sv (aT (p.lp.dQ (fn y)) p.free.length)∧bo H' ns (p.lp.lZ (fn y))):=by
 obtain⟨fv,fG,rfl,cB,cF⟩:=id hp
 obtain⟨Af,cf,xf,rfl,ea,eH⟩:=cB.one
 obtain⟨Ar,cr,xr,rfl,cL,du⟩:=cF.row
 obtain⟨Ay,cy,xy,rfl,uM,uN⟩:=hy.rat
 rw[gi]at hy⊢
 have dY:=aP.dR
 have iQ:=aP.rows
 have r6:=hy.ec
 have JO:∀(i:Nat)(r:List Rat×Int×Rat),p.rows[i]? = some r→∀q,q∈r.1→aJ q≤N+2:=fun i r hr=>by
  obtain⟨A0,c0,f,A1,m1,c1,A2,m2,c2,fU,dL⟩:=du i r hr
  exact eZ.size fU
 have fM:∀i j,i≤p.rows.length→aJ (oO p y i j)≤800*(2*(N+2)+2)+1:=fun i j hi=>by
  have h9:=sZ (M:=N+2) i (fn y) (fun k=>p.lp.a k j) (fun k hk=>r6 _ (lI (by omega))) (fun k hk=>Prg.Uc JO (by omega) k j (by omega))
  have h8:i*(2*(N+2)+2)≤800*(2*(N+2)+2):=Nat.mul_le_mul_right _ (by omega)
  exact Nat.le_trans h9 (by omega)
 have tm:∀i,i≤p.rows.length→aJ (wX p y i)≤800*(2*(N+2)+2)+1:=fun i hi=>by
  have h9:=sZ (M:=N+2) i (fn y) p.lp.b (fun k hk=>r6 _ (lI (by omega))) (fun k hk=>by
   obtain⟨A0,c0,f,A1,m1,c1,A2,m2,c2,fU,dL⟩:=du k _ (List.getElem?_eq_getElem (show k<p.rows.length by omega))
   have h7:=(eZ.bound fU).size
   show aJ (p.row k).2.2≤_
   rw[Prg.gu (List.getElem?_eq_getElem (show k<p.rows.length by omega))];exact h7)
  have h8:i*(2*(N+2)+2)≤800*(2*(N+2)+2):=Nat.mul_le_mul_right _ (by omega)
  exact Nat.le_trans h9 (by omega)
 refine aU (args:=[_,_]) Tryz.func163 rfl rfl Tryz.ntmps163 rfl rfl fun w0=> ?_;refine ag [0,1] rfl ?_;refine ae ?_;refine bF rfl rfl ?_;refine vr 1 ?_;refine bh dT rfl ?_;refine ab [1,2,5] ?_;refine ae ?_;refine vr 3 ?_;refine ar rfl rfl (Bu (gs:=[]) (n:=p.free.length) (fun q hq=>by cases hq) (by omega)) ?_;rintro v1 H1 ⟨aI,z,oA,rfl,wy,Iq⟩;refine vr 1 ?_;refine ab [1,2,4,5] ?_;refine ae ?_;refine ar rfl rfl (oy) ?_;rintro v2 H2 ⟨e2,rfl⟩;rw[e2];obtain⟨ti,aj,ak⟩:=bV;refine aG (.inl ⟨rfl,rfl⟩) rfl rfl rfl aj ak rfl rfl rfl ?_;refine ab [1,2,4,5] ?_;refine al ?_;refine ae ?_;refine vr 4 ?_;refine ab [1,4,5,17,18,19] ?_;refine aD ?_;refine jv (fun(i:Nat)(xs:List Value)(t:Int×Int×Option Addr)=>p.rows.length-i) (fun(i:Nat)(xs:List Value)(t:Int×Int×Option Addr)=>put (put (put (put (put (put (emp) 1 (.val (.slice Ay p.rows.length cy))) 4 (.val (.slice (some ⟨z,0,none⟩) p.free.length p.free.length))) 5 (.box [.int .i64 t.1,.int .i64 t.2.1,.pointer t.2.2])) 17 (.val (.slice Ar p.rows.length cr))) 18 (.val (.int .i64 (p.rows.length:Int)))) 19 (.val (.int .i64 (i:Int)))) (fun(i:Nat)(xs:List Value)(t:Int×Int×Option Addr) H'=>eD [] H H' z xs (p.free.length*3) 90∧bI (bo (rem H' [z])) 3 xs (aT (oO p y i) p.free.length)∧bo (rem H' [z]) [.int .i64 t.1,.int .i64 t.2.1,.pointer t.2.2] (wX p y i)∧i≤p.rows.length) 0 oA (0,1,none) (⟨wy,Iq _,ow _ (n:=0) (by decide) (by decide),Nat.zero_le _⟩) au ?_
 rintro i xs t H3 ⟨gx,pj,OJ,hi3⟩;have ib:=V3 gx;refine ae ?_;refine vr 1 ?_;refine ab [1,4,5,17,18,19,20] ?_;refine al ?_;refine az rfl (fun hb=> ?_) (fun hb=> ?_)
 ·
  have cQ:i<p.rows.length:=by simpa using hb
  obtain⟨r,hr⟩:∃r,p.rows[i]? = some r:=⟨_,List.getElem?_eq_getElem cQ⟩;obtain⟨A0,c0,f,A1,m1,c1,A2,m2,c2,fU,dL⟩:=du i r hr;have lE:p.row i=r:=Prg.gu hr;have jm:bN H (.agg #[.bool f,.slice A1 m1 c1,.slice A2 m2 c2]) r.2.2 N:=eZ.bound fU;have It:=jm.size;have lF:r.1.length=p.free.length:=(aP.row i r hr).1;have jl:aC (aS N) 3 H (.slice A0 r.1.length c0) r.1:=eZ.T9 fU;obtain⟨NL,NM,x0,zA,oV,iJ⟩:=jl.rat
  obtain⟨rfl,-,rfl⟩:A0=NL∧r.1.length=r.1.length∧c0=NM:=by simpa using zA
  obtain⟨q,dG⟩:∃q,y[i]? = some q:=⟨_,List.getElem?_eq_getElem (by omega)⟩;obtain⟨g,B1,k1,e1,B2,k2,e2,eI,gA⟩:=uN i q dG;have eO:fn y i=q:=gq dG;have uz:=r6 q (List.mem_of_getElem? dG);refine aw ?_;refine ag [1,4,5,17,18,19] rfl ?_;refine al ?_;refine aD ?_;refine ae ?_;refine vr 1 ?_;refine cI (vs:=[.slice A0 r.1.length c0,.int .i64 r.2.1,.bool f,.slice A1 m1 c1,.slice A2 m2 c2]) af rfl rfl rfl rfl (cL.le gx.hle) rfl (by decide) dL (by omega) (by omega) fun _=> ?_;refine bh gY rfl ?_;refine vr 1 ?_;obtain⟨ti,aj,ak⟩:=rU;refine aG (.inl ⟨rfl,rfl⟩) rfl rfl rfl aj ak rfl rfl rfl ?_;refine ab [1,4,5,6,7,17,18,19] ?_;refine ae ?_;refine vr 2 ?_;refine cI (vs:=[.bool g,.slice B1 k1 e1,.slice B2 k2 e2]) af rfl rfl rfl rfl (uM.le gx.hle) rfl (by decide) gA (by omega) (by omega) fun _=> ?_;refine ar rfl rfl (Fn.iy (gs:=[z]) (gx.ne (fun q hq=>by cases hq)) (vV (eI.le ib) (by omega))) ?_;rintro v4 H4 ⟨fg,bE,n4,d4,b4,rfl,bR⟩;have nE:=gx.kept fg;refine bh dT rfl ?_;obtain⟨ti,aj,ak⟩:=bV;refine aG (.inl ⟨rfl,rfl⟩) rfl rfl rfl aj ak rfl rfl rfl ?_;refine ab [1,4,5,7,8,17,18,19] ?_;refine al ?_;refine ae ?_;refine vr 1 ?_;refine ar rfl rfl (Fn.qh (gs:=[z]) (nE.ne (fun q hq=>by cases hq)) (iN bR (by omega))) ?_
  rintro v5 H5 ⟨OK,cA,rfl⟩;have nG:=nE.kept OK;have ku:=fg.trans OK;have ja:=bR.le OK.le;refine vr 1 ?_;refine ab [1,4,5,7,8,17,18,19,31] ?_;refine az rfl (fun hb=> ?_) (fun hb=> ?_)
  ·
   have gF:q=0:=wo.1 (by simpa using hb);refine bB ?_;refine ag [1,4,5,17,18,19] rfl ?_;refine aE rfl ?_;refine aN rfl rfl ⟨by omega,by omega⟩ ?_;refine vr 1 ?_;refine aA ?_;exact⟨i+1,xs,t,by omega,au,nG,by rw[ks (g:=oO p y i) (fun j _=>by rw[Ua,eO,gF];grind)];exact pj.mono fun vs a=>fD _ _ vs a ku.le,by rw[Ub,eO,gF,show wX p y i+0*p.lp.b i=wX p y i by grind];exact OJ.le ku.le,by omega⟩
  ·
   clear hb;refine aw ?_;refine ag [1,4,5,7,8,17,18,19] rfl ?_;refine al ?_;refine ae ?_;refine vr 4 ?_;refine ab [1,4,5,7,8,17,18,19,33,34,35] ?_;refine aD ?_;refine jT (fun(j:Nat)(ys:List Value)=>p.free.length-j) (fun(j:Nat)(ys:List Value)=>put (put (put (put (put (put (put (put (put (put (put (emp) 1 (.val (.slice Ay p.rows.length cy))) 4 (.val (.slice (some ⟨z,0,none⟩) p.free.length p.free.length))) 5 (.box [.int .i64 t.1,.int .i64 t.2.1,.pointer t.2.2])) 17 (.val (.slice Ar p.rows.length cr))) 18 (.val (.int .i64 (p.rows.length:Int)))) 19 (.val (.int .i64 (i:Int)))) 7 (.box [.slice A0 r.1.length c0,.int .i64 r.2.1,.bool f,.slice A1 m1 c1,.slice A2 m2 c2])) 8 (.box [.int .i64 n4,.int .i64 d4,.pointer b4])) 33 (.val (.slice A0 r.1.length c0))) 34 (.val (.int .i64 (r.1.length:Int)))) 35 (.val (.int .i64 (j:Int)))) (fun(j:Nat)(ys:List Value) H'=>eD [] H H' z ys (p.free.length*3) 90∧bI (bo (rem H' [z])) 3 ys (aT (iZ (oO p y (i+1)) (oO p y i) j) p.free.length)∧Heap.le (rem H5 [z]) (rem H' [z])∧j≤p.free.length) 0 xs (⟨nG,by rw[ks (g:=oO p y i) (fun j _=>by simp[iZ])];exact pj.mono fun vs a=>fD _ _ vs a ku.le,.refl _,Nat.zero_le _⟩) au ?_;rintro j ys H6 ⟨sS,sG,ma,hj6⟩;have DI:=sG.len;rw[cS]at DI;have V5:=V3 sS;refine ae ?_;refine vr 1 ?_;refine ab [1,4,5,7,8,17,18,19,33,34,35,36] ?_
   refine al ?_;refine az rfl (fun hb=> ?_) (fun hb=> ?_)
   ·
    have mo:j<p.free.length:=by have h9:j<r.1.length:=(by simpa using hb);omega
    obtain⟨a,Cq⟩:∃a,r.1[j]? = some a:=⟨_,List.getElem?_eq_getElem (by omega)⟩;obtain⟨g7,D1,l1,o1,D2,l2,o2,OE,afI⟩:=iJ j a Cq
    have haj:p.lp.a i j=a:=by show fn (p.row i).1 j=a;rw[lE];exact gq Cq
    have afJ:=JO i r hr a (List.mem_of_getElem? Cq);obtain⟨vs8,_,uo,hx8⟩:=sG.get (fp mo);obtain⟨n8,d8,b8,rfl⟩:=uo.cells;rw[show iZ (oO p y (i+1)) (oO p y i) j j=oO p y i j by simp[iZ]]at uo;have OL:=fM i j (by omega);refine aw ?_;refine ag [1,4,5,7,8,17,18,19,33,34,35] rfl ?_;refine al ?_;refine aD ?_;refine ae ?_;refine vr 1 ?_;refine cI (vs:=[.bool g7,.slice D1 l1 o1,.slice D2 l2 o2]) af rfl rfl rfl rfl (oV.le sS.hle) rfl (by decide) afI (by omega) (by omega) fun _=> ?_;refine bh cM rfl ?_;refine vr 1 ?_;obtain⟨ti,aj,ak⟩:=bM;refine aG (.inl ⟨rfl,rfl⟩) rfl rfl rfl aj ak rfl rfl rfl ?_;refine ab [1,4,5,7,8,9,10,17,18,19,33,34,35] ?_;refine eT .gO [0,1,2,3,4,5,6,7,8,9,10,11,12] follows (by kernel_rfl) ?_;refine vr 4 ?_;refine cI (vs:=[.int .i64 n8,.int .i64 d8,.pointer b8]) af rfl rfl rfl rfl (qX sS.aB) rfl (by decide) hx8 (by omega) (by omega) fun _=> ?_;refine vr 2 ?_;refine aH rfl rfl (Fn.iy (gs:=[z]) (sS.ne (fun q hq=>by cases hq)) (vV (OE.le V5) (by omega))) (fun _ _ h=>by first | exact h.le | exact h.1) ?_;rintro v7 H7 ⟨oD,gw,n7,d7,b7,rfl,kX⟩;have EB:=sS.kept oD;refine aH rfl rfl (Fn.iy (gs:=[z]) (EB.ne (fun q hq=>by cases hq)) (tY (N:=N+2) ((ja.le ma).le oD.le) kX uz afJ (by omega))) (fun _ _ h=>by first | exact h.le | exact h.1) ?_
    rintro v9 H8 ⟨wV,jt,n9,d9,b9,rfl,Ji⟩;have EC:=EB.kept wV;have afK:=nx q a;refine aH rfl rfl (Fn.iy (gs:=[z]) (EC.ne (fun q hq=>by cases hq)) (HI (N:=800*(2*(N+2)+2)+1) ((uo.le oD.le).le wV.le) Ji OL (by omega) (by omega))) (fun _ _ h=>by first | exact h.le | exact h.1) ?_;rintro v10 H9 ⟨kB,gJ,OM,d10,FU,rfl,nK⟩;have wH:=EC.kept kB;obtain⟨ti,aj,ak⟩:=bV;refine eB (.inr rfl) af rfl rfl rfl (by omega) (by omega) (wH.aB) rfl (by show 0+p.free.length*3≤ys.length;omega) aj ak (fun _=>rfl) rfl rfl rfl fun _=> ?_;refine aA ?_;refine ag [1,4,5,7,8,17,18,19,33,34,35] rfl ?_;refine aE rfl ?_;refine aN rfl rfl ⟨by omega,by omega⟩ ?_;refine vr 1 ?_;refine aA ?_;exact⟨j+1,aF ys (j*3) [.int .i64 OM,.int .i64 d10,.pointer FU],by omega,au,wH.set (by rw[Int.toNat_natCast];exact mJ),by rw[cK _ (List.mem_cons_self ..),←Ra];exact(sG.mono fun vs a=>fD _ _ vs a ((oD.le.trans wV.le).trans kB.le)).set (by rw[cS];exact mo) (by rw[Ua,eO,haj];exact nK) nK.len,by rw[cK _ (List.mem_cons_self ..)];exact((ma.trans oD.le).trans wV.le).trans kB.le,by omega⟩
   ·
    have hb:p.free.length≤j:=by have h9:r.1.length≤j:=(by simpa using hb);omega
    obtain rfl:p.free.length=j:=by omega
    have OL:=tm i (by omega);refine bB ?_;refine ag [1,4,5,7,8,17,18,19] rfl ?_;refine eT .bn [0,1,2,3,4,5,6,7] follows (by kernel_rfl) ?_;refine vr 4 ?_;refine aH rfl rfl (Fn.iy (gs:=[z]) (sS.ne (fun q hq=>by cases hq)) (vV (jm.le V5) (by omega))) (fun _ _ h=>by first | exact h.le | exact h.1) ?_;rintro v11 Et ⟨wM,zb,n11,d11,Jz,rfl,JP⟩;have V6:=sS.kept wM;refine aH rfl rfl (Fn.iy (gs:=[z]) (V6.ne (fun q hq=>by cases hq)) (tY (N:=N+2) ((ja.le ma).le wM.le) JP uz (by omega) (by omega))) (fun _ _ h=>by first | exact h.le | exact h.1) ?_;rintro v12 oG ⟨zh,Fw,n12,d12,b12,rfl,Md⟩;have wI:=V6.kept zh;have afK:=nx q r.2.2;refine aH rfl rfl (Fn.iy (gs:=[z]) (wI.ne (fun q hq=>by cases hq)) (HI (N:=800*(2*(N+2)+2)+1) ((((OJ.le ku.le).le ma).le wM.le).le zh.le) Md OL (by omega) (by omega))) (fun _ _ h=>by first | exact h.le | exact h.1) ?_;rintro Sq ez ⟨yV,yW,Iv,d13,Iw,rfl,Ix⟩;have BC:=wI.kept yV
    have afL:bI (bo (rem ez [z])) 3 ys (aT (oO p y (i+1)) p.free.length):=by rw[ks (g:=iZ (oO p y (i+1)) (oO p y i) p.free.length) (fun j hj=>by simp[iZ,hj])];exact sG.mono fun vs a=>fD _ _ vs a ((wM.le.trans zh.le).trans yV.le)
    rw[show wX p y i+q*r.2.2=wX p y (i+1) by rw[Ub,eO];show _=_+q*(p.row i).2.2;rw[lE]]at Ix;obtain⟨ti,aj,ak⟩:=bV;refine aG (.inl ⟨rfl,rfl⟩) rfl rfl rfl aj ak rfl rfl rfl ?_;refine aA ?_;refine ag [1,4,5,17,18,19] rfl ?_;refine aE rfl ?_;refine aN rfl rfl ⟨by omega,by omega⟩ ?_;refine vr 1 ?_;refine aA ?_;exact⟨i+1,_,(Iv,d13,Iw),by omega,au,BC,afL,Ix,by omega⟩
 ·
  have hb:p.rows.length≤i:=by simpa using hb
  obtain rfl:p.rows.length=i:=by omega
  refine bB ?_;refine ag [4,5] rfl ?_;refine bL .bn [0,1,2,3] follows (by kernel_rfl) ?_;refine vr 3 ?_;obtain⟨ti,aj,ak⟩:=bV;refine aG (.inl ⟨rfl,rfl⟩) rfl rfl rfl aj ak rfl rfl rfl ?_;refine ab [4,5] ?_;obtain⟨ri1,afM,afN⟩:=bV;refine aq ⟨.inr rfl,_,.tmp rfl (.agg rfl Tryz.underlying90 afM afN (.nil)),?_⟩;exact⟨gx.hle,_,_,rfl,⟨some ⟨z,0,none⟩,_,xs,by rw[cS],by rw[cS];exact Nat.le_refl _,qX gx.aB,pj.mono fun vs a=>fD _ _ vs a (bG _ _)⟩,OJ.le (bG _ _)⟩
end Go.ay
