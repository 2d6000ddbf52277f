/- Walks over package simplex, simplex.go, part 4: sums. -/
import Derived.Test.YtfjncmjbhfdnpaaGreatA15
import Derived.Test.YtfjncmjbhfdnpaaGreatSmp3
set_option linter.unusedVariables false
namespace Go.ar
open Go.Proofs Num Lp
theorem aaf{H H':Heap}{z:Nat}{xs:List Value}{s e:Nat}(h:eH [] H H' z xs s e):Heap.le H (rem H' [z]):=by
 have:=h.le;rwa [vD]at this
theorem aag{H:Heap}{v yv:Value}{p:Prg}{y:List Rat}{N:Nat}(hp:eJ N H v p)(bg:p.Ok)(hy:aR (ck N) 3 H yv y)(jb:y.length=p.rows.length)(hN:N≤600000000):
 Fn Tryz.prog 163 #[v,yv] H (fun v H'=>Heap.le H H'∧∃sv ns,v = .tuple #[sv,.agg ns.toArray]∧aR bE 3 H' sv (aH (p.lp.fD (fn y)) p.free.length)∧bE H' ns (p.lp.ou (fn y))):=by
 obtain⟨fv,fN,rfl,eo,ep⟩:=id hp
 obtain⟨Af,cf,xf,rfl,gZ,hO⟩:=eo.one
 obtain⟨Ar,cr,xr,rfl,eK,fO⟩:=ep.row
 obtain⟨Ay,cy,xy,rfl,BN,BO⟩:=hy.rat
 rw[jb]at hy⊢
 have gL:=bg.gM
 have uL:=bg.rows
 have tX:=hy.jF
 have Mc:∀(i:Nat)(r:List Rat×Int×Rat),p.rows[i]? = some r→∀q,q∈r.1→aG q≤N+2:=fun i r hr=>by
  obtain⟨A0,c0,f,A1,m1,c1,A2,m2,c2,fS,jV⟩:=fO i r hr
  exact eV.size fS
 have je:∀i j,i≤p.rows.length→aG (pI p y i j)≤800*(2*(N+2)+2)+1:=fun i j hi=>by
  have h9:=yD (M:=N+2) i (fn y) (fun k=>p.lp.a k j) (fun k hk=>tX _ (qw (by omega))) (fun k hk=>Prg.X1 Mc (by omega) k j (by omega))
  have h8:i*(2*(N+2)+2)≤800*(2*(N+2)+2):=Nat.mul_le_mul_right _ (by omega)
  exact Nat.le_trans h9 (by omega)
 have y7:∀i,i≤p.rows.length→aG (yE p y i)≤800*(2*(N+2)+2)+1:=fun i hi=>by
  have h9:=yD (M:=N+2) i (fn y) p.lp.b (fun k hk=>tX _ (qw (by omega))) (fun k hk=>by
   obtain⟨A0,c0,f,A1,m1,c1,A2,m2,c2,fS,jV⟩:=fO k _ (List.getElem?_eq_getElem (show k<p.rows.length by omega))
   have h7:=(eV.bound fS).size
   show aG (p.row k).2.2≤_
   rw[Prg.m8 (List.getElem?_eq_getElem (show k<p.rows.length by omega))];exact h7)
  have h8:i*(2*(N+2)+2)≤800*(2*(N+2)+2):=Nat.mul_le_mul_right _ (by omega)
  exact Nat.le_trans h9 (by omega)
 refine aZ (args:=[_,_]) Tryz.func163 rfl rfl Tryz.ntmps163 rfl rfl fun w0=> ?_;refine ag [0,1] rfl ?_;refine ab ?_;refine bS rfl rfl ?_;refine vr 1 ?_;refine bt dM rfl ?_;refine aa [1,2,5] ?_;refine ab ?_;refine vr 3 ?_;refine aw rfl rfl (CP (gs:=[]) (n:=p.free.length) (fun q hq=>by cases hq) (by omega)) ?_;rintro v1 H1 ⟨bH,z,ox,rfl,yf,yk⟩;refine vr 1 ?_;refine aa [1,2,4,5] ?_;refine ab ?_;refine aw rfl rfl (pe) ?_;rintro v2 H2 ⟨e2,rfl⟩;rw[e2];obtain⟨ti,aj,ak⟩:=bV;refine aJ (.inl ⟨rfl,rfl⟩) rfl rfl rfl aj ak rfl rfl rfl ?_;refine aa [1,2,4,5] ?_;refine al ?_;refine ab ?_;refine vr 4 ?_;refine aa [1,4,5,17,18,19] ?_;refine aC ?_;refine gh (fun(i:Nat)(xs:List Value)(t:Int×Int×Option Addr)=>p.rows.length-i) (fun(i:Nat)(xs:List Value)(t:Int×Int×Option Addr)=>put (put (put (put (put (put (emp) 1 (.val (.slice Ay p.rows.length cy))) 4 (.val (.slice (some ⟨z,0,none⟩) p.free.length p.free.length))) 5 (.box [.int .i64 t.1,.int .i64 t.2.1,.pointer t.2.2])) 17 (.val (.slice Ar p.rows.length cr))) 18 (.val (.int .i64 (p.rows.length:Int)))) 19 (.val (.int .i64 (i:Int)))) (fun(i:Nat)(xs:List Value)(t:Int×Int×Option Addr) H'=>eH [] H H' z xs (p.free.length*3) 90∧bC (bE (rem H' [z])) 3 xs (aH (pI p y i) p.free.length)∧bE (rem H' [z]) [.int .i64 t.1,.int .i64 t.2.1,.pointer t.2.2] (yE p y i)∧i≤p.rows.length) 0 ox (0,1,none) (⟨yf,yk _,pd _ (n:=0) (by decide) (by decide),Nat.zero_le _⟩) an ?_
 rintro i xs t H3 ⟨gP,qh,Sg,hi3⟩;have gV:=aaf gP;refine ab ?_;refine vr 1 ?_;refine aa [1,4,5,17,18,19,20] ?_;refine al ?_;refine aB rfl (fun hb=> ?_) (fun hb=> ?_)
 ·
  have aQ:i<p.rows.length:=by simpa using hb
  obtain⟨r,hr⟩:∃r,p.rows[i]? = some r:=⟨_,List.getElem?_eq_getElem aQ⟩;obtain⟨A0,c0,f,A1,m1,c1,A2,m2,c2,fS,jV⟩:=fO i r hr;have E7:p.row i=r:=Prg.m8 hr;have kT:cH H (.agg #[.bool f,.slice A1 m1 c1,.slice A2 m2 c2]) r.2.2 N:=eV.bound fS;have Kc:=kT.size;have ks:r.1.length=p.free.length:=(bg.row i r hr).1;have pZ:aR (ck N) 3 H (.slice A0 r.1.length c0) r.1:=eV.KR fS;obtain⟨Zd,Ze,x0,Hs,sj,jN⟩:=pZ.rat
  obtain⟨rfl,-,rfl⟩:A0=Zd∧r.1.length=r.1.length∧c0=Ze:=by simpa using Hs
  obtain⟨q,dL⟩:∃q,y[i]? = some q:=⟨_,List.getElem?_eq_getElem (by omega)⟩;obtain⟨g,B1,k1,e1,B2,k2,e2,tm,wg⟩:=BO i q dL;have gp:fn y i=q:=jC dL;have uD:=tX q (List.mem_of_getElem? dL);refine au ?_;refine ag [1,4,5,17,18,19] rfl ?_;refine al ?_;refine aC ?_;refine ab ?_;refine vr 1 ?_;refine bR (vs:=[.slice A0 r.1.length c0,.int .i64 r.2.1,.bool f,.slice A1 m1 c1,.slice A2 m2 c2]) ae rfl rfl rfl rfl (eK.le gP.hle) rfl (by decide) jV (by omega) (by omega) fun _=> ?_;refine bt kR rfl ?_;refine vr 1 ?_;obtain⟨ti,aj,ak⟩:=mq;refine aJ (.inl ⟨rfl,rfl⟩) rfl rfl rfl aj ak rfl rfl rfl ?_;refine aa [1,4,5,6,7,17,18,19] ?_;refine ab ?_;refine vr 2 ?_;refine bR (vs:=[.bool g,.slice B1 k1 e1,.slice B2 k2 e2]) ae rfl rfl rfl rfl (BN.le gP.hle) rfl (by decide) wg (by omega) (by omega) fun _=> ?_;refine aw rfl rfl (Fn.iU (gs:=[z]) (gP.ne (fun q hq=>by cases hq)) (vG (tm.le gV) (by omega))) ?_;rintro v4 H4 ⟨fu,cE,n4,d4,b4,rfl,ct⟩;have oz:=gP.kept fu;refine bt dM rfl ?_;obtain⟨ti,aj,ak⟩:=bV;refine aJ (.inl ⟨rfl,rfl⟩) rfl rfl rfl aj ak rfl rfl rfl ?_;refine aa [1,4,5,7,8,17,18,19] ?_;refine al ?_;refine ab ?_;refine vr 1 ?_;refine aw rfl rfl (Fn.kX (gs:=[z]) (oz.ne (fun q hq=>by cases hq)) (iT ct (by omega))) ?_
  rintro v5 H5 ⟨Sh,dy,rfl⟩;have oA:=oz.kept Sh;have j7:=fu.trans Sh;have eU:=ct.le Sh.le;refine vr 1 ?_;refine aa [1,4,5,7,8,17,18,19,31] ?_;refine aB rfl (fun hb=> ?_) (fun hb=> ?_)
  ·
   have jk:q=0:=lA.1 (by simpa using hb);refine aU ?_;refine ag [1,4,5,17,18,19] rfl ?_;refine av rfl ?_;refine aD rfl rfl ⟨by omega,by omega⟩ ?_;refine vr 1 ?_;refine aq ?_;exact⟨i+1,xs,t,by omega,an,oA,by rw[j6 (g:=pI p y i) (fun j _=>by rw[XZ,gp,jk];grind)];exact qh.mono fun vs a=>fJ _ _ vs a j7.le,by rw[X0,gp,jk,show yE p y i+0*p.lp.b i=yE p y i by grind];exact Sg.le j7.le,by omega⟩
  ·
   clear hb;refine au ?_;refine ag [1,4,5,7,8,17,18,19] rfl ?_;refine al ?_;refine ab ?_;refine vr 4 ?_;refine aa [1,4,5,7,8,17,18,19,33,34,35] ?_;refine aC ?_;refine gy (fun(j:Nat)(ys:List Value)=>p.free.length-j) (fun(j:Nat)(ys:List Value)=>put (put (put (put (put (put (put (put (put (put (put (emp) 1 (.val (.slice Ay p.rows.length cy))) 4 (.val (.slice (some ⟨z,0,none⟩) p.free.length p.free.length))) 5 (.box [.int .i64 t.1,.int .i64 t.2.1,.pointer t.2.2])) 17 (.val (.slice Ar p.rows.length cr))) 18 (.val (.int .i64 (p.rows.length:Int)))) 19 (.val (.int .i64 (i:Int)))) 7 (.box [.slice A0 r.1.length c0,.int .i64 r.2.1,.bool f,.slice A1 m1 c1,.slice A2 m2 c2])) 8 (.box [.int .i64 n4,.int .i64 d4,.pointer b4])) 33 (.val (.slice A0 r.1.length c0))) 34 (.val (.int .i64 (r.1.length:Int)))) 35 (.val (.int .i64 (j:Int)))) (fun(j:Nat)(ys:List Value) H'=>eH [] H H' z ys (p.free.length*3) 90∧bC (bE (rem H' [z])) 3 ys (aH (jD (pI p y (i+1)) (pI p y i) j) p.free.length)∧Heap.le (rem H5 [z]) (rem H' [z])∧j≤p.free.length) 0 xs (⟨oA,by rw[j6 (g:=pI p y i) (fun j _=>by simp[jD])];exact qh.mono fun vs a=>fJ _ _ vs a j7.le,.refl _,Nat.zero_le _⟩) an ?_;rintro j ys H6 ⟨uE,uj,mI,hj6⟩;have E9:=uj.len;rw[aW]at E9;have aah:=aaf uE;refine ab ?_;refine vr 1 ?_;refine aa [1,4,5,7,8,17,18,19,33,34,35,36] ?_
   refine al ?_;refine aB rfl (fun hb=> ?_) (fun hb=> ?_)
   ·
    have fP:j<p.free.length:=by have h9:j<r.1.length:=(by simpa using hb);omega
    obtain⟨a,Si⟩:∃a,r.1[j]? = some a:=⟨_,List.getElem?_eq_getElem (by omega)⟩;obtain⟨g7,D1,l1,o1,D2,l2,o2,ajL,ajM⟩:=jN j a Si
    have haj:p.lp.a i j=a:=by show fn (p.row i).1 j=a;rw[E7];exact jC Si
    have ajN:=Mc i r hr a (List.mem_of_getElem? Si);obtain⟨QD,_,vV,oO⟩:=uj.get (di fP);obtain⟨n8,d8,b8,rfl⟩:=vV.cells;rw[show jD (pI p y (i+1)) (pI p y i) j j=pI p y i j by simp[jD]]at vV;have Sj:=je i j (by omega);refine au ?_;refine ag [1,4,5,7,8,17,18,19,33,34,35] rfl ?_;refine al ?_;refine aC ?_;refine ab ?_;refine vr 1 ?_;refine bR (vs:=[.bool g7,.slice D1 l1 o1,.slice D2 l2 o2]) ae rfl rfl rfl rfl (sj.le uE.hle) rfl (by decide) ajM (by omega) (by omega) fun _=> ?_;refine bt cR rfl ?_;refine vr 1 ?_;obtain⟨ti,aj,ak⟩:=a8;refine aJ (.inl ⟨rfl,rfl⟩) rfl rfl rfl aj ak rfl rfl rfl ?_;refine aa [1,4,5,7,8,9,10,17,18,19,33,34,35] ?_;refine dZ .fV [0,1,2,3,4,5,6,7,8,9,10,11,12] follows (by kernel_rfl) ?_;refine vr 4 ?_;refine bR (vs:=[.int .i64 n8,.int .i64 d8,.pointer b8]) ae rfl rfl rfl rfl (dF uE.aE) rfl (by decide) oO (by omega) (by omega) fun _=> ?_;refine vr 2 ?_;refine aO rfl rfl (Fn.iU (gs:=[z]) (uE.ne (fun q hq=>by cases hq)) (vG (ajL.le aah) (by omega))) (fun _ _ h=>by first | exact h.le | exact h.1) ?_;rintro v7 H7 ⟨mJ,kK,n7,d7,b7,rfl,iW⟩;have FP:=uE.kept mJ;refine aO rfl rfl (Fn.iU (gs:=[z]) (FP.ne (fun q hq=>by cases hq)) (vM (N:=N+2) ((eU.le mI).le mJ.le) iW uD ajN (by omega))) (fun _ _ h=>by first | exact h.le | exact h.1) ?_
    rintro v9 H8 ⟨l7,kL,n9,d9,b9,rfl,eL⟩;have FQ:=FP.kept l7;have ajO:=pc q a;refine aO rfl rfl (Fn.iU (gs:=[z]) (FQ.ne (fun q hq=>by cases hq)) (Jz (N:=800*(2*(N+2)+2)+1) ((vV.le mJ.le).le l7.le) eL Sj (by omega) (by omega))) (fun _ _ h=>by first | exact h.le | exact h.1) ?_;rintro v10 H9 ⟨fM,dX,Hr,d10,BG,rfl,eW⟩;have yl:=FQ.kept fM;obtain⟨ti,aj,ak⟩:=bV;refine cM (.inr rfl) ae rfl rfl rfl (by omega) (by omega) (yl.aE) rfl (by show 0+p.free.length*3≤ys.length;omega) aj ak (fun _=>rfl) rfl rfl rfl fun _=> ?_;refine aq ?_;refine ag [1,4,5,7,8,17,18,19,33,34,35] rfl ?_;refine av rfl ?_;refine aD rfl rfl ⟨by omega,by omega⟩ ?_;refine vr 1 ?_;refine aq ?_;exact⟨j+1,aI ys (j*3) [.int .i64 Hr,.int .i64 d10,.pointer BG],by omega,an,yl.set (by rw[Int.toNat_natCast];exact nn),by rw[cC _ (List.mem_cons_self ..),←U4];exact(uj.mono fun vs a=>fJ _ _ vs a ((mJ.le.trans l7.le).trans fM.le)).set (by rw[aW];exact fP) (by rw[XZ,gp,haj];exact eW) eW.len,by rw[cC _ (List.mem_cons_self ..)];exact((mI.trans mJ.le).trans l7.le).trans fM.le,by omega⟩
   ·
    have hb:p.free.length≤j:=by have h9:r.1.length≤j:=(by simpa using hb);omega
    obtain rfl:p.free.length=j:=by omega
    have Sj:=y7 i (by omega);refine aU ?_;refine ag [1,4,5,7,8,17,18,19] rfl ?_;refine dZ .bF [0,1,2,3,4,5,6,7] follows (by kernel_rfl) ?_;refine vr 4 ?_;refine aO rfl rfl (Fn.iU (gs:=[z]) (uE.ne (fun q hq=>by cases hq)) (vG (kT.le aah) (by omega))) (fun _ _ h=>by first | exact h.le | exact h.1) ?_;rintro v11 pj ⟨uN,oE,oM,d11,b11,rfl,wu⟩;have aai:=uE.kept uN;refine aO rfl rfl (Fn.iU (gs:=[z]) (aai.ne (fun q hq=>by cases hq)) (vM (N:=N+2) ((eU.le mI).le uN.le) wu uD (by omega) (by omega))) (fun _ _ h=>by first | exact h.le | exact h.1) ?_;rintro v12 im ⟨tl,rL,Wo,d12,Wp,rfl,py⟩;have ym:=aai.kept tl;have ajO:=pc q r.2.2;refine aO rfl rfl (Fn.iU (gs:=[z]) (ym.ne (fun q hq=>by cases hq)) (Jz (N:=800*(2*(N+2)+2)+1) ((((Sg.le j7.le).le mI).le uN.le).le tl.le) py Sj (by omega) (by omega))) (fun _ _ h=>by first | exact h.le | exact h.1) ?_;rintro OP cV ⟨s3,iX,FR,d13,Kd,rfl,oC⟩;have C3:=ym.kept s3
    have ajP:bC (bE (rem cV [z])) 3 ys (aH (pI p y (i+1)) p.free.length):=by rw[j6 (g:=jD (pI p y (i+1)) (pI p y i) p.free.length) (fun j hj=>by simp[jD,hj])];exact uj.mono fun vs a=>fJ _ _ vs a ((uN.le.trans tl.le).trans s3.le)
    rw[show yE p y i+q*r.2.2=yE p y (i+1) by rw[X0,gp];show _=_+q*(p.row i).2.2;rw[E7]]at oC;obtain⟨ti,aj,ak⟩:=bV;refine aJ (.inl ⟨rfl,rfl⟩) rfl rfl rfl aj ak rfl rfl rfl ?_;refine aq ?_;refine ag [1,4,5,17,18,19] rfl ?_;refine av rfl ?_;refine aD rfl rfl ⟨by omega,by omega⟩ ?_;refine vr 1 ?_;refine aq ?_;exact⟨i+1,_,(FR,d13,Kd),by omega,an,C3,ajP,oC,by omega⟩
 ·
  have hb:p.rows.length≤i:=by simpa using hb
  obtain rfl:p.rows.length=i:=by omega
  refine aU ?_;refine ag [4,5] rfl ?_;refine bJ .bF [0,1,2,3] follows (by kernel_rfl) ?_;refine vr 3 ?_;obtain⟨ti,aj,ak⟩:=bV;refine aJ (.inl ⟨rfl,rfl⟩) rfl rfl rfl aj ak rfl rfl rfl ?_;refine aa [4,5] ?_;obtain⟨HT,tz,tA⟩:=bV;refine az ⟨.inr rfl,_,.tmp rfl (.agg rfl Tryz.underlying90 tz tA (.nil)),?_⟩;exact⟨gP.hle,_,_,rfl,⟨some ⟨z,0,none⟩,_,xs,by rw[aW],by rw[aW];exact Nat.le_refl _,dF gP.aE,qh.mono fun vs a=>fJ _ _ vs a (bG _ _)⟩,Sg.le (bG _ _)⟩
end Go.ar
