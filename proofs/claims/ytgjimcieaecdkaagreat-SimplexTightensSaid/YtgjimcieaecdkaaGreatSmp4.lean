/- Walks over package simplex, simplex.go, part 4: sums. -/
import Derived.Test.YtgjimcieaecdkaaGreatA10
import Derived.Test.YtgjimcieaecdkaaGreatSmp3
set_option linter.unusedVariables false
namespace Go.au
open Go.Proofs Num Lp
theorem Pp{H H':Heap}{z:Nat}{xs:List Value}{s e:Nat}(h:c7 [] H H' z xs s e):Heap.le H (rem H' [z]):=by
 have:=h.le;rwa [ry]at this
theorem Pq{H:Heap}{v yv:Value}{p:Prg}{y:List Rat}{N:Nat}(hp:dN N H v p)(bx:p.Ok)(hy:aM (ca N) 3 H yv y)(iF:y.length=p.rows.length)(hN:N≤600000000):
 Fn Tryz.prog 90 #[v,yv] H (fun v H'=>Heap.le H H'∧∃sv ns,v = .tuple #[sv,.agg ns.toArray]∧aM aT 3 H' sv (aH (p.lp.dP (fn y)) p.free.length)∧aT H' ns (p.lp.kJ (fn y))):=by
 obtain⟨fv,j8,rfl,eu,ew⟩:=id hp
 obtain⟨Af,cf,xf,rfl,iR,iS⟩:=eu.one
 obtain⟨Ar,cr,xr,rfl,fy,eW⟩:=ew.row
 obtain⟨Ay,cy,xy,rfl,uX,uY⟩:=hy.rat
 rw[iF]at hy⊢
 have eT:=bx.eZ
 have qD:=bx.rows
 have oT:=hy.gT
 have Em:∀(i:Nat)(r:List Rat×Int×Rat),p.rows[i]? = some r→∀q,q∈r.1→aC q≤N+2:=fun i r hr=>by
  obtain⟨A0,c0,f,A1,m1,c1,A2,m2,c2,eH,gS⟩:=eW i r hr
  exact ep.size eH
 have e7:∀i j,i≤p.rows.length→aC (lI p y i j)≤800*(2*(N+2)+2)+1:=fun i j hi=>by
  have h9:=sw (M:=N+2) i (fn y) (fun k=>p.lp.a k j) (fun k hk=>oT _ (my (by omega))) (fun k hk=>Prg.OT Em (by omega) k j (by omega))
  have h8:i*(2*(N+2)+2)≤800*(2*(N+2)+2):=Nat.mul_le_mul_right _ (by omega)
  exact Nat.le_trans h9 (by omega)
 have sD:∀i,i≤p.rows.length→aC (sx p y i)≤800*(2*(N+2)+2)+1:=fun i hi=>by
  have h9:=sw (M:=N+2) i (fn y) p.lp.b (fun k hk=>oT _ (my (by omega))) (fun k hk=>by
   obtain⟨A0,c0,f,A1,m1,c1,A2,m2,c2,eH,gS⟩:=eW k _ (List.getElem?_eq_getElem (show k<p.rows.length by omega))
   have h7:=(ep.bound eH).size
   show aC (p.row k).2.2≤_
   rw[Prg.l7 (List.getElem?_eq_getElem (show k<p.rows.length by omega))];exact h7)
  have h8:i*(2*(N+2)+2)≤800*(2*(N+2)+2):=Nat.mul_le_mul_right _ (by omega)
  exact Nat.le_trans h9 (by omega)
 refine aU (args:=[_,_]) Tryz.func90 rfl rfl Tryz.ntmps90 rfl rfl fun w0=> ?_;refine ah [0,1] rfl ?_;refine ae (bR rfl rfl (aa 1 rfl (bG cN rfl (ab [1,2,5] ?_))));refine ae (aa 3 rfl (aq rfl rfl (wu (gs:=[]) (n:=p.free.length) (fun q hq=>by cases hq) (by omega)) ?_));rintro v1 H1 ⟨bC,z,ly,rfl,rL,rT⟩;refine aa 1 rfl (ab [1,2,4,5] ?_);refine ae (aq rfl rfl (ln) ?_);rintro v2 H2 ⟨e2,rfl⟩;rw[e2];obtain⟨ti,aj,ak⟩:=a9;refine aO (.inl ⟨rfl,rfl⟩) rfl rfl rfl aj ak rfl rfl rfl (ab [1,2,4,5] ?_);refine ao (ae (aa 4 rfl (ab [1,4,5,17,18,19] ?_)));refine aD (ju (fun(i:Nat)(xs:List Value)(t:Int×Int×Option Addr)=>p.rows.length-i) (fun(i:Nat)(xs:List Value)(t:Int×Int×Option Addr)=>put (put (put (put (put (put (emp) 1 (.val (.slice Ay p.rows.length cy))) 4 (.val (.slice (some ⟨z,0,none⟩) p.free.length p.free.length))) 5 (.box [.int .i64 t.1,.int .i64 t.2.1,.pointer t.2.2])) 17 (.val (.slice Ar p.rows.length cr))) 18 (.val (.int .i64 (p.rows.length:Int)))) 19 (.val (.int .i64 (i:Int)))) (fun(i:Nat)(xs:List Value)(t:Int×Int×Option Addr) H'=>c7 [] H H' z xs (p.free.length*3) 61∧bF (aT (rem H' [z])) 3 xs (aH (lI p y i) p.free.length)∧aT (rem H' [z]) [.int .i64 t.1,.int .i64 t.2.1,.pointer t.2.2] (sx p y i)∧i≤p.rows.length) 0 ly (0,1,none) (⟨rL,rT _,ll _ (n:=0) (by decide) (by decide),Nat.zero_le _⟩) av ?_)
 rintro i xs t H3 ⟨eN,mg,IS,hi3⟩;have fL:=Pp eN;refine ae (aa 1 rfl (ab [1,4,5,17,18,19,20] ?_));refine ao (az rfl (fun hb=> ?_) (fun hb=> ?_))
 ·
  have dS:i<p.rows.length:=by simpa using hb
  obtain⟨r,hr⟩:∃r,p.rows[i]? = some r:=⟨_,List.getElem?_eq_getElem dS⟩;obtain⟨A0,c0,f,A1,m1,c1,A2,m2,c2,eH,gS⟩:=eW i r hr;have yE:p.row i=r:=Prg.l7 hr;have jW:cj H (.agg #[.bool f,.slice A1 m1 c1,.slice A2 m2 c2]) r.2.2 N:=ep.bound eH;have Dk:=jW.size;have m5:r.1.length=p.free.length:=(bx.row i r hr).1;have oP:aM (ca N) 3 H (.slice A0 r.1.length c0) r.1:=ep.OQ eH;obtain⟨ZI,ZJ,x0,ZK,pN,g6⟩:=oP.rat
  obtain⟨rfl,-,rfl⟩:A0=ZI∧r.1.length=r.1.length∧c0=ZJ:=by simpa using ZK
  obtain⟨q,dI⟩:∃q,y[i]? = some q:=⟨_,List.getElem?_eq_getElem (by omega)⟩;obtain⟨g,B1,k1,e1,B2,k2,e2,qJ,uW⟩:=uY i q dI;have ia:fn y i=q:=jl dI;have po:=oT q (List.mem_of_getElem? dI);refine aw (ah [1,4,5,17,18,19] rfl ?_);refine ao (aD (ae (aa 1 rfl (cQ (vs:=[.slice A0 r.1.length c0,.int .i64 r.2.1,.bool f,.slice A1 m1 c1,.slice A2 m2 c2]) ag rfl rfl rfl rfl (fy.le eN.hle) rfl (by decide) gS (by omega) (by omega) fun _=>(bG ko rfl (vr 1 ?_))))));obtain⟨ti,aj,ak⟩:=q7;refine aO (.inl ⟨rfl,rfl⟩) rfl rfl rfl aj ak rfl rfl rfl (ab [1,4,5,6,7,17,18,19] ?_);refine ae (aa 2 rfl (cQ (vs:=[.bool g,.slice B1 k1 e1,.slice B2 k2 e2]) ag rfl rfl rfl rfl (uX.le eN.hle) rfl (by decide) uW (by omega) (by omega) fun _=>(aq rfl rfl (Fn.fw (gs:=[z]) (eN.ne (fun q hq=>by cases hq)) (p9 (qJ.le fL) (by omega))) ?_)));rintro v4 H4 ⟨dM,dr,n4,d4,b4,rfl,cE⟩;have kM:=eN.kept dM;refine bG cN rfl ?_;obtain⟨ti,aj,ak⟩:=a9;refine aO (.inl ⟨rfl,rfl⟩) rfl rfl rfl aj ak rfl rfl rfl (ab [1,4,5,7,8,17,18,19] ?_);refine ao (ae (aa 1 rfl (aq rfl rfl (Fn.m0 (gs:=[z]) (kM.ne (fun q hq=>by cases hq)) (fq cE (by omega))) ?_)))
  rintro v5 H5 ⟨IT,cU,rfl⟩;have kO:=kM.kept IT;have iq:=dM.trans IT;have jG:=cE.le IT.le;refine aa 1 rfl (ab [1,4,5,7,8,17,18,19,31] ?_);refine az rfl (fun hb=> ?_) (fun hb=> ?_)
  ·
   have jV:q=0:=j2.1 (by simpa using hb);refine bA (ah [1,4,5,17,18,19] rfl ?_);refine aB rfl (aJ rfl rfl ⟨by omega,by omega⟩ (aa 1 rfl (ay ?_)));exact⟨i+1,xs,t,by omega,av,kO,by rw[il (g:=lI p y i) (fun j _=>by rw[OR,ia,jV];grind)];exact mg.mono fun vs a=>dT _ _ vs a iq.le,by rw[OS,ia,jV,show sx p y i+0*p.lp.b i=sx p y i by grind];exact IS.le iq.le,by omega⟩
  ·
   clear hb;refine aw (ah [1,4,5,7,8,17,18,19] rfl ?_);refine ao (ae (aa 4 rfl (ab [1,4,5,7,8,17,18,19,33,34,35] ?_)));refine aD (jb (fun(j:Nat)(ys:List Value)=>p.free.length-j) (fun(j:Nat)(ys:List Value)=>put (put (put (put (put (put (put (put (put (put (put (emp) 1 (.val (.slice Ay p.rows.length cy))) 4 (.val (.slice (some ⟨z,0,none⟩) p.free.length p.free.length))) 5 (.box [.int .i64 t.1,.int .i64 t.2.1,.pointer t.2.2])) 17 (.val (.slice Ar p.rows.length cr))) 18 (.val (.int .i64 (p.rows.length:Int)))) 19 (.val (.int .i64 (i:Int)))) 7 (.box [.slice A0 r.1.length c0,.int .i64 r.2.1,.bool f,.slice A1 m1 c1,.slice A2 m2 c2])) 8 (.box [.int .i64 n4,.int .i64 d4,.pointer b4])) 33 (.val (.slice A0 r.1.length c0))) 34 (.val (.int .i64 (r.1.length:Int)))) 35 (.val (.int .i64 (j:Int)))) (fun(j:Nat)(ys:List Value) H'=>c7 [] H H' z ys (p.free.length*3) 61∧bF (aT (rem H' [z])) 3 ys (aH (gf (lI p y (i+1)) (lI p y i) j) p.free.length)∧Heap.le (rem H5 [z]) (rem H' [z])∧j≤p.free.length) 0 xs (⟨kO,by rw[il (g:=lI p y i) (fun j _=>by simp[gf])];exact mg.mono fun vs a=>dT _ _ vs a iq.le,.refl _,Nat.zero_le _⟩) av ?_);rintro j ys H6 ⟨px,o5,jH,hj6⟩;have yG:=o5.len;rw[bV]at yG;have Pr:=Pp px;refine ae (aa 1 rfl (ab [1,4,5,7,8,17,18,19,33,34,35,36] ?_))
   refine ao (az rfl (fun hb=> ?_) (fun hb=> ?_))
   ·
    have Ps:j<p.free.length:=by have h9:j<r.1.length:=(by simpa using hb);omega
    obtain⟨a,IU⟩:∃a,r.1[j]? = some a:=⟨_,List.getElem?_eq_getElem (by omega)⟩;obtain⟨g7,D1,l1,o1,D2,l2,o2,ZL,ZM⟩:=g6 j a IU
    have ZN:p.lp.a i j=a:=by show fn (p.row i).1 j=a;rw[yE];exact jl IU
    have ZO:=Em i r hr a (List.mem_of_getElem? IU);obtain⟨vs8,_,qq,ZP⟩:=o5.get (dQ Ps);obtain⟨n8,d8,b8,rfl⟩:=qq.cells;rw[show gf (lI p y (i+1)) (lI p y i) j j=lI p y i j by simp[gf]]at qq;have IV:=e7 i j (by omega);refine aw (ah [1,4,5,7,8,17,18,19,33,34,35] rfl ?_);refine ao (aD (ae (aa 1 rfl (cQ (vs:=[.bool g7,.slice D1 l1 o1,.slice D2 l2 o2]) ag rfl rfl rfl rfl (pN.le px.hle) rfl (by decide) ZM (by omega) (by omega) fun _=>(bG eD rfl (vr 1 ?_))))));obtain⟨ti,aj,ak⟩:=bP;refine aO (.inl ⟨rfl,rfl⟩) rfl rfl rfl aj ak rfl rfl rfl (ab [1,4,5,7,8,9,10,17,18,19,33,34,35] ?_);refine fk .fC [0,1,2,3,4,5,6,7,8,9,10,11,12] follows (by kernel_rfl) ?_;refine aa 4 rfl (cQ (vs:=[.int .i64 n8,.int .i64 d8,.pointer b8]) ag rfl rfl rfl rfl (nY px.a6) rfl (by decide) ZP (by omega) (by omega) fun _=>(aa 2 rfl (aI rfl rfl (Fn.fw (gs:=[z]) (px.ne (fun q hq=>by cases hq)) (p9 (ZL.le Pr) (by omega))) (fun _ _ h=>by first | exact h.le | exact h.1) ?_)));rintro v7 H7 ⟨lB,gw,n7,d7,b7,rfl,j6⟩;have zA:=px.kept lB;refine aI rfl rfl (Fn.fw (gs:=[z]) (zA.ne (fun q hq=>by cases hq)) (qh (N:=N+2) ((jG.le jH).le lB.le) j6 po ZO (by omega))) (fun _ _ h=>by first | exact h.le | exact h.1) ?_
    rintro v9 H8 ⟨so,gG,n9,d9,b9,rfl,ZQ⟩;have zB:=zA.kept so;have ZR:=nN q a;refine aI rfl rfl (Fn.fw (gs:=[z]) (zB.ne (fun q hq=>by cases hq)) (CF (N:=800*(2*(N+2)+2)+1) ((qq.le lB.le).le so.le) ZQ IV (by omega) (by omega))) (fun _ _ h=>by first | exact h.le | exact h.1) ?_;rintro v10 H9 ⟨ix,eo,IW,d10,IX,rfl,kR⟩;have rU:=zB.kept ix;obtain⟨ti,aj,ak⟩:=a9;refine dE (.inr rfl) ag rfl rfl rfl (by omega) (by omega) (rU.a6) rfl (by show 0+p.free.length*3≤ys.length;omega) aj ak (fun _=>rfl) rfl rfl rfl fun _=> ?_;refine ay (ah [1,4,5,7,8,17,18,19,33,34,35] rfl ?_);refine aB rfl (aJ rfl rfl ⟨by omega,by omega⟩ (aa 1 rfl (ay ?_)));exact⟨j+1,aA ys (j*3) [.int .i64 IW,.int .i64 d10,.pointer IX],by omega,av,rU.set (by rw[Int.toNat_natCast];exact j4),by rw[bY _ (List.mem_cons_self ..),←Ly];exact(o5.mono fun vs a=>dT _ _ vs a ((lB.le.trans so.le).trans ix.le)).set (by rw[bV];exact Ps) (by rw[OR,ia,ZN];exact kR) kR.len,by rw[bY _ (List.mem_cons_self ..)];exact((jH.trans lB.le).trans so.le).trans ix.le,by omega⟩
   have hb:p.free.length≤j:=by have h9:r.1.length≤j:=(by simpa using hb);omega
   obtain rfl:p.free.length=j:=by omega
   have IV:=sD i (by omega);refine bA (ah [1,4,5,7,8,17,18,19] rfl ?_);refine fk .bN [0,1,2,3,4,5,6,7] follows (by kernel_rfl) ?_;refine aa 4 rfl (aI rfl rfl (Fn.fw (gs:=[z]) (px.ne (fun q hq=>by cases hq)) (p9 (jW.le Pr) (by omega))) (fun _ _ h=>by first | exact h.le | exact h.1) ?_);rintro v11 uy ⟨r6,pE,Pt,d11,Pu,rfl,ZS⟩;have Pv:=px.kept r6;refine aI rfl rfl (Fn.fw (gs:=[z]) (Pv.ne (fun q hq=>by cases hq)) (qh (N:=N+2) ((jG.le jH).le r6.le) ZS po (by omega) (by omega))) (fun _ _ h=>by first | exact h.le | exact h.1) ?_;rintro zC jJ ⟨uR,qG,M0,d12,M1,rfl,zD⟩;have rV:=Pv.kept uR;have ZR:=nN q r.2.2;refine aI rfl rfl (Fn.fw (gs:=[z]) (rV.ne (fun q hq=>by cases hq)) (CF (N:=800*(2*(N+2)+2)+1) ((((IS.le iq.le).le jH).le r6.le).le uR.le) zD IV (by omega) (by omega))) (fun _ _ h=>by first | exact h.le | exact h.1) ?_;rintro GY cS ⟨uE,ng,Dm,d13,Dn,rfl,Dp⟩;have wD:=rV.kept uE
   have ZT:bF (aT (rem cS [z])) 3 ys (aH (lI p y (i+1)) p.free.length):=by rw[il (g:=gf (lI p y (i+1)) (lI p y i) p.free.length) (fun j hj=>by simp[gf,hj])];exact o5.mono fun vs a=>dT _ _ vs a ((r6.le.trans uR.le).trans uE.le)
   rw[show sx p y i+q*r.2.2=sx p y (i+1) by rw[OS,ia];show _=_+q*(p.row i).2.2;rw[yE]]at Dp;obtain⟨ti,aj,ak⟩:=a9;refine aO (.inl ⟨rfl,rfl⟩) rfl rfl rfl aj ak rfl rfl rfl (ay (ah [1,4,5,17,18,19] rfl ?_));refine aB rfl (aJ rfl rfl ⟨by omega,by omega⟩ (aa 1 rfl (ay ?_)));exact⟨i+1,_,(Dm,d13,Dn),by omega,av,wD,ZT,Dp,by omega⟩
 ·
  have hb:p.rows.length≤i:=by simpa using hb
  obtain rfl:p.rows.length=i:=by omega
  refine bA (ah [4,5] rfl ?_);refine bT .bN [0,1,2,3] follows (by kernel_rfl) ?_;refine vr 3 ?_;obtain⟨ti,aj,ak⟩:=a9;refine aO (.inl ⟨rfl,rfl⟩) rfl rfl rfl aj ak rfl rfl rfl (ab [4,5] ?_);obtain⟨ri1,ZU,ZV⟩:=a9;refine ar ⟨.inr rfl,_,.tmp rfl (.agg rfl Tryz.underlying61 ZU ZV (.nil)),?_⟩;exact⟨eN.hle,_,_,rfl,⟨some ⟨z,0,none⟩,_,xs,by rw[bV],by rw[bV];exact Nat.le_refl _,nY eN.a6,mg.mono fun vs a=>dT _ _ vs a (bE _ _)⟩,IS.le (bE _ _)⟩
end Go.au
