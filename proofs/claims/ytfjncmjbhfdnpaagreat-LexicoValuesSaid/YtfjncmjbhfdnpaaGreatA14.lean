/- Part 14 of the proof: St, Sc, SDat4, Sv. -/
import Derived.Test.YtfjncmjbhfdnpaaGreatA13
set_option linter.unusedVariables false
namespace Go.aw
open Go.Proofs Num Lp
theorem GU.hle{K H:Heap}{G:GG}{R W m:Nat}{M:Nat→Nat→Rat}{B:Nat→Nat}{u:Value}{l:List Nat}(h:GU K H G R W m M B u l):Heap.le K H:=h.le.trans (bt _ _)
theorem SZ.hle{C:Heap→List Value→Prop}{K H:Heap}{G:GG}{R W m:Nat}{M:Nat→Nat→Rat}{B:Nat→Nat}{u:Value}{l:List Nat}{z:Nat}(h:SZ C K H G R W m M B u l z):Heap.le K H:=h.le.trans (bt _ _)
theorem abf{rel s:Int}(hr:rel=1∨rel=2∨rel=3)(hs:s=1∨s = -1):(kF rel s=1∨kF rel s=2∨kF rel s=3)∧(kF rel s=2↔rel=2):=by
 unfold kF
 rcases hr with rfl | rfl | rfl <;> rcases hs with rfl | rfl <;> simp
theorem akD{f:Nat→Rat}{k:Nat}{a b:Rat}:bY (bY f k a) k b=bY f k b:=by
 funext j
 by_cases e:j=k
 ·subst e;rw[jI,jI]
 ·rw[eI e,eI e,eI e]
def TW(p:Prg)(i:Nat):Nat→Rat:=bY (fg p (p.lp.a i) (p.aK i:Rat) p.lp.n) p.w (p.lp.b i*(p.aK i:Rat))
def Fk(p:Prg)(i:Nat):Nat→Rat:=if p.lp.rel i=2 then TW p i else bY (TW p i) (bD p.lp.rel p.c1 i) (if kF (p.lp.rel i) (p.aK i)=1 then 1 else -1)
theorem abg{p:Prg}{i:Nat}:dP p i=if kF (p.lp.rel i) (p.aK i)=1 then Fk p i else bY (Fk p i) (aY p.lp.rel p.aK p.u i) 1:=rfl
theorem akE{H:Heap}{p:Prg}{pv:Value}{N:Nat}(bx:p.Ok)(hp:ea N H pv p)(hN:N≤400000000):
 Fn Tryz.prog 62 #[pv] H (fun v H'=>∃G,v = .tuple #[.agg #[.slice G.Ar p.lp.m G.cr,G.bv],.int .i64 (p.u:Int)]∧G.top = []∧cA iQ H' G p.lp.m (p.w+1) p.lp.m (dP p) p.unit∧Heap.le H (rem H' G.gs)):=by
 obtain⟨fv,fL,rfl,dO,eo⟩:=id hp
 obtain⟨Af,cf,xf,rfl,iv,gS⟩:=dO.one
 obtain⟨Ar,cr,xr,rfl,iM,eJ,gE⟩:=id eo
 have jF:=bx.iG
 have tZ:=bx.rows
 have hpn:p.lp.n=p.free.length:=rfl
 have sV:p.lp.m=p.rows.length:=rfl
 have di:=xX (p:=p)
 have hcu:=mr p
 have mU:=fp p
 have RO:p.w≤2*p.lp.n+2*p.lp.m:=Ih p
 have AD:p.c1=p.free.length+p.xf p.free.length:=by show aX _ _=_+(aX p.lp.free p.lp.n-p.lp.n);have:=zS (fr:=p.lp.free) p.lp.n;omega
 have mQ:p.u=p.c1+p.sf p.rows.length:=by show bD _ _ _=_+(bD p.lp.rel p.c1 p.lp.m-p.c1);have:=(sI p.lp.rel p.c1 p.lp.m).2;omega
 have han:p.w=p.u+p.af p.rows.length:=by show aY _ _ _ _=_+(aY p.lp.rel p.aK p.u p.lp.m-p.u);have:=(tW p.lp.rel p.aK p.u p.lp.m).2;omega
 obtain⟨W,hW⟩:∃W,W=p.w+1:=⟨_,rfl⟩
 rw[←hW];refine aZ (args:=[_]) Tryz.func62 rfl rfl Tryz.ntmps62 rfl rfl fun w0=> ?_;refine aj [0] rfl ?_;refine ag (bW rfl rfl (bn Kx rfl (ab 1 rfl (ae [1,2] ?_))));refine ag (aF rfl rfl ((qZ (n:=0) (by decide) (by decide)).rc) ?_);rintro _ H1 ⟨cH,t4,rfl,cI⟩;rw[show ((0:Int):Rat)=0 from rfl]at cI;refine aF rfl rfl ((qZ (n:=1) (by decide) (by decide)).rc) ?_;rintro _ H2 ⟨dC,t5,rfl,eW⟩;rw[show ((1:Int):Rat)=1 from rfl]at eW;have NH:=cH.trans dC
 have pb:aP (1:Rat)≤2:=by decide
 refine bn bZ rfl (bn bZ rfl ?_);obtain⟨ti,ak,al⟩:=a6;refine aI (.inl ⟨rfl,rfl⟩) rfl rfl rfl ak al rfl rfl rfl ?_;obtain⟨ti,ak,al⟩:=a6;refine aI (.inl ⟨rfl,rfl⟩) rfl rfl rfl ak al rfl rfl rfl (ae [1,2,4,5] ?_);refine ag (ab 3 rfl (ae [1,2,4,5,6,7,8] ?_));refine aq (ag (ab 4 rfl (ae [1,2,4,5,6,7,8,28,29] ?_)));refine aG (gK (fun(j:Nat)=>p.free.length-j) (fun(j:Nat)=>put (put (put (put (put (put (put (put (put (emp) 1 (.box [.slice Af p.free.length cf,.slice Ar p.rows.length cr])) 2 (.box [.slice none 0 0,.slice none 0 0])) 4 (.box [.bool t4.f,.slice t4.A1 t4.m1 t4.c1,.slice t4.A2 t4.m2 t4.c2])) 5 (.box [.bool t5.f,.slice t5.A1 t5.m1 t5.c1,.slice t5.A2 t5.m2 t5.c2])) 6 (.val (.int .i64 (p.xf j:Int)))) 7 (.val (.int .i64 0))) 8 (.val (.int .i64 0))) 28 (.val (.int .i64 (p.free.length:Int)))) 29 (.val (.int .i64 (j:Int)))) (fun(j:Nat) H'=>H'=H2∧j≤p.free.length∧p.xf j≤j) 0 (⟨rfl,Nat.zero_le _,Nat.le_refl _⟩) (by repeat (first | exact iV _ | refine dB rfl ?_ | refine dB (jk (by first | omega | (simp;done) | rfl)) ?_)) ?_);rintro j H2b ⟨e2,hj,Xv⟩;rw[e2];clear e2 H2b;refine ag (ab 1 rfl (ae [1,2,4,5,6,7,8,28,29,30] ?_));refine aq (aD rfl (fun hb=> ?_) (fun hb=> ?_))
 ·
  have gU:j<p.free.length:=by simpa using hb
  obtain⟨uf,rb,kG⟩:=gS j _ (List.getElem?_eq_getElem gU);have kG: [uf] = [Value.bool p.free[j]]:=kG
  cases kG
  have nT:p.lp.free j=p.free[j]:=Prg.Bv (List.getElem?_eq_getElem gU);have e8:=akv (p:=p) (j:=j);refine aA (aj [1,2,4,5,6,7,8,28,29] rfl ?_);refine aq (aG (ag (ab 2 rfl (ae [1,2,4,5,6,7,8,9,28,29] ?_))));refine ag (ab 3 rfl (aS ah rfl rfl rfl rfl rfl (iv.le NH) (by rw[Int.toNat_natCast];exact rb) (by omega) (by omega) fun _=> ?_));refine ae [1,2,4,5,6,7,8,28,29,36] ?_;refine aD rfl (fun hb=> ?_) (fun hb=> ?_)
  ·
   have fM:p.lp.free j=true:=by rw[nT];simpa using hb
   rw[if_pos fM]at e8;refine aC rfl (ab 1 rfl (aH rfl rfl ⟨by omega,by omega⟩ (ab 1 rfl (az (aj [1,2,4,5,6,7,8,28,29] rfl ?_)))));refine aC rfl (aH rfl rfl ⟨by omega,by omega⟩ (ab 1 rfl (az ?_)));exact⟨j+1,by omega,au,rfl,by omega,by omega⟩
  ·
   have fM:¬p.lp.free j=true:=by rw[nT];simpa using hb
   rw[if_neg fM]at e8;refine aA (aj [1,2,4,5,6,7,8,28,29] rfl ?_);refine aC rfl (aH rfl rfl ⟨by omega,by omega⟩ (ab 1 rfl (az ?_)));exact⟨j+1,by omega,au,rfl,by omega,by omega⟩
 ·
  have gU:p.free.length≤j:=by simpa using hb
  obtain rfl:j=p.free.length:=by omega
  refine aW (aj [1,2,4,5,6,7,8] rfl ?_);refine ag (ab 3 rfl (gJ Tryz.underlying23 gL rfl rfl rfl (by omega) (by omega) (by omega) (by omega) ?_));intro gx qR;have zX:=I3 (P:=fA (N+2)) (e:=78) (sz:=5) (zs:=[.slice none 0 0,.int .i64 0,.bool false,.slice none 0 0,.slice none 0 0]) (z:=0) (k:=(p.rows.length:Int)) (c:=p.rows.length) qR rfl (Int.toNat_natCast _) (by unfold maxLen;omega);rw[Int.toNat_natCast]at zX⊢;refine ab 1 rfl (ae [1,2,4,5,6,7,8,10] ?_);refine aq (ag (ab 4 rfl (ae [1,2,4,5,6,7,8,10,46,47] ?_)));refine aG (fG (fun(i:Nat)(w:Value)(ws:List Value)=>p.rows.length-i) (fun(i:Nat)(w:Value)(ws:List Value)=>put (put (put (put (put (put (put (put (put (put (emp) 1 (.box [.slice Af p.free.length cf,.slice Ar p.rows.length cr])) 2 (.box [.slice none 0 0,.slice none 0 0])) 4 (.box [.bool t4.f,.slice t4.A1 t4.m1 t4.c1,.slice t4.A2 t4.m2 t4.c2])) 5 (.box [.bool t5.f,.slice t5.A1 t5.m1 t5.c1,.slice t5.A2 t5.m2 t5.c2])) 6 (.val (.int .i64 (p.xf p.free.length:Int)))) 7 (.val (.int .i64 (p.sf i:Int)))) 8 (.val (.int .i64 (p.af i:Int)))) 10 (.val (w))) 46 (.val (.int .i64 (p.rows.length:Int)))) 47 (.val (.int .i64 (i:Int)))) (fun(i:Nat)(w:Value)(ws:List Value) H'=>ed (fA (N+2)) 78 5 H2 H' w ((p.rows.take i).map fE) ws∧i≤p.rows.length∧p.sf i≤i∧p.af i≤i) 0 _ _ (⟨zX,Nat.zero_le _,by show bD _ _ 0-_≤_;unfold bD;omega,by show aY _ _ _ 0-_≤_;unfold aY;omega⟩) (by repeat (first | exact iV _ | refine dB rfl ?_ | refine dB (jk (by first | omega | (simp;done) | (show _=((bD _ _ 0-_:Nat):Int);unfold bD;omega) | (show _=((aY _ _ _ 0-_:Nat):Int);unfold aY;omega))) ?_)) ?_)
  rintro i w ws H3 ⟨hG,hi,hsi,LX⟩;obtain⟨A3,c3,rfl⟩:=hG.form
  have gm:((p.rows.take i).map fE).length=i:=by simp;omega
  refine ag (ab 1 rfl (ae [1,2,4,5,6,7,8,10,46,47,48] ?_));refine aq (aD rfl (fun hb=> ?_) (fun hb=> ?_))
  ·
   have aU:i<p.rows.length:=by simpa using hb
   obtain⟨r,hr⟩:∃r,p.rows[i]? = some r:=⟨_,List.getElem?_eq_getElem aU⟩;obtain⟨A0,c0,f,A1,m1,c1,A2,m2,c2,ln,eT,lS,kC⟩:=aR.I0 gE hr;have Fl:=bx.row i r hr;have lO:=bx.valid i aU;have JO:p.aK i=1∨p.aK i = -1:=sH _ _;have cW:=abe hr;have ho:=S2 lO JO;obtain⟨eH,ee⟩:=abf lO JO;rw[←cW]at ho eH ee;have e7:=aky (p:=p) (i:=i);have e8:=akz (p:=p) (i:=i);refine aA (aj [1,2,4,5,6,7,8,10,46,47] rfl ?_);refine aq (aG (ag (ab 2 rfl (ae [1,2,4,5,6,7,8,10,11,46,47] ?_))));refine ag (ab 3 rfl (ck (vs:=[.slice A0 r.1.length c0,.int .i64 r.2.1,.bool f,.slice A1 m1 c1,.slice A2 m2 c2]) ah rfl rfl rfl rfl (eJ.le (NH.trans hG.le)) rfl (by decide) kC (by omega) (by omega) fun _=>(aF rfl rfl (hG.call (aj3 (N:=N) (fJ N _ _ _ _ (NH.trans hG.base) ⟨_,_,_,_,rfl,eT,lS⟩) hN (by rw[Fl.1];omega) Fl.2)) ?_)));rintro _ H6 gw;have fC:=hG.jK (fJ (N+2)) gw fun _ _ h=>h.1;obtain⟨⟨_,A5,c5,f5,B1,k1,e1,B2,k2,e2,rfl,iu⟩,_⟩:=gw;refine bn gL rfl ?_;obtain⟨ti,ak,al⟩:=nY;refine aI (.inl ⟨rfl,rfl⟩) rfl rfl rfl ak al rfl rfl rfl (ae [1,2,4,5,6,7,8,10,12,46,47] ?_);refine ag (ab 2 rfl (cR Tryz.underlying23 gL rfl rfl rfl rfl rfl rfl rfl ?_))
   intro gd iA;have fV:=fC.ins (fJ (N+2)) (whole (cF [.agg #[.slice A5 r.1.length c5,.int .i64 (fE r).2.1,.bool f5,.slice B1 k1 e1,.slice B2 k2 e2]]) 78) iA;refine dK Tryz.underlying23 gL rfl rfl fV.own (dE _ _ _ _ _ _) rfl (EY _ _ _ _ _ _ _ _ _ _ _) (by rw[gm];omega) (by rw[gm];omega) ?_;intro v9 H9 ua;have fW:=fV.append (fJ (N+2)) (k:=[fE r]) (by simp) ua (iE (fJ (N+2) _ _ _ _ (og _ (Heap.bC _ iA)) iu) rfl);obtain⟨F9,f9,rfl⟩:=fW.form;refine ab 1 rfl (ae [1,2,4,5,6,7,8,10,12,46,47] ?_);refine aq (ag (ab 3 rfl (ae [1,2,4,5,6,7,8,10,12,46,47,62] ?_)));refine aD rfl (fun hb=> ?_) (fun hb=> ?_)
   ·
    have hb:¬(fE r).2.1=2:=by simpa using hb
    rw[if_neg (fun h=>hb (ee.2 h))]at e7;refine aC rfl (ab 1 rfl (aH rfl rfl ⟨by omega,by omega⟩ (ab 1 rfl (az (aj [1,2,4,5,6,7,8,10,12,46,47] rfl ?_)))));refine ag (ab 3 rfl (ae [1,2,4,5,6,7,8,10,46,47,67] ?_));refine aD rfl (fun hb=> ?_) (fun hb=> ?_)
    ·
     have hb:¬(fE r).2.1=1:=by simpa using hb
     rw[if_neg (fun h=>hb (ho.1 h))]at e8;refine aC rfl (ab 1 rfl (aH rfl rfl ⟨by omega,by omega⟩ (ab 1 rfl (az (aj [1,2,4,5,6,7,8,10,46,47] rfl ?_)))));refine aC rfl (aH rfl rfl ⟨by omega,by omega⟩ (ab 1 rfl (az ?_)));exact⟨i+1,_,_,by omega,au,by rw[I4 hr];exact fW,by omega,by omega,by omega⟩
    have hb:(fE r).2.1=1:=by simpa using hb
    rw[if_pos (ho.2 hb)]at e8;refine aA (aj [1,2,4,5,6,7,8,10,46,47] rfl ?_);refine aC rfl (aH rfl rfl ⟨by omega,by omega⟩ (ab 1 rfl (az ?_)));exact⟨i+1,_,_,by omega,au,by rw[I4 hr];exact fW,by omega,by omega,by omega⟩
   have hb:(fE r).2.1=2:=by simpa using hb
   rw[if_pos (ee.1 hb)]at e7;refine aA (aj [1,2,4,5,6,7,8,10,12,46,47] rfl ?_);refine ag (ab 3 rfl (ae [1,2,4,5,6,7,8,10,46,47,67] ?_));refine aD rfl (fun hb=> ?_) (fun hb=> ?_)
   ·
    have hb:¬(fE r).2.1=1:=by simpa using hb
    rw[if_neg (fun h=>hb (ho.1 h))]at e8;refine aC rfl (ab 1 rfl (aH rfl rfl ⟨by omega,by omega⟩ (ab 1 rfl (az (aj [1,2,4,5,6,7,8,10,46,47] rfl ?_)))));refine aC rfl (aH rfl rfl ⟨by omega,by omega⟩ (ab 1 rfl (az ?_)));exact⟨i+1,_,_,by omega,au,by rw[I4 hr];exact fW,by omega,by omega,by omega⟩
   have hb:(fE r).2.1=1:=by simpa using hb
   rw[if_pos (ho.2 hb)]at e8;refine aA (aj [1,2,4,5,6,7,8,10,46,47] rfl ?_);refine aC rfl (aH rfl rfl ⟨by omega,by omega⟩ (ab 1 rfl (az ?_)));exact⟨i+1,_,_,by omega,au,by rw[I4 hr];exact fW,by omega,by omega,by omega⟩
  have aU:p.rows.length≤i:=by simpa using hb
  obtain rfl:i=p.rows.length:=by omega
  rw[gm];have Ag:=hG.sl (fJ (N+2));rw[List.take_length]at Ag;obtain⟨A3',c3',x3,e3,vn,xe,gD⟩:=id Ag
  cases e3
  have abh:=NH.trans hG.le;have hs0:bD p.lp.rel p.c1 0=p.c1:=rfl;have hu0:aY p.lp.rel p.aK p.u 0=p.u:=rfl;have cI:=(cI.le dC).le hG.le;have eW:=eW.le hG.le;refine aW (aj [1,2,4,5,6,7,8,10] rfl ?_);refine ag (ab 4 rfl (aH rfl rfl ⟨by omega,by omega⟩ (ab 1 rfl (aH rfl rfl ⟨by omega,by omega⟩ (ab 1 rfl (ae [1,2,4,5,6,8,10,13] ?_))))));refine ag (bn Kx rfl (ae [1,2,4,5,6,8,10,13,14] ?_));refine ag (ab 4 rfl (aH rfl rfl ⟨by omega,by omega⟩ (ab 3 rfl (ae [1,2,4,5,8,10,13,14,15,16] ?_))));refine aq (ag (ab 3 rfl (ae [1,2,4,5,8,13,14,15,16,84,85,86] ?_)));refine aG (fG (fun(i:Nat)(G:GG)(u:Value)=>p.rows.length-i) (fun(i:Nat)(G:GG)(u:Value)=>put (put (put (put (put (put (put (put (put (put (put (put (emp) 1 (.box [.slice Af p.free.length cf,.slice Ar p.rows.length cr])) 2 (.box [.slice none 0 0,.slice none 0 0])) 4 (.box [.bool t4.f,.slice t4.A1 t4.m1 t4.c1,.slice t4.A2 t4.m2 t4.c2])) 5 (.box [.bool t5.f,.slice t5.A1 t5.m1 t5.c1,.slice t5.A2 t5.m2 t5.c2])) 8 (.val (.int .i64 (p.af p.rows.length:Int)))) 13 (.val (.int .i64 (p.u:Int)))) 14 (.box [.slice G.Ar i G.cr,u])) 15 (.val (.int .i64 (bD p.lp.rel p.c1 i:Int)))) 16 (.val (.int .i64 (aY p.lp.rel p.aK p.u i:Int)))) 84 (.val (.slice A3 p.rows.length c3))) 85 (.val (.int .i64 (p.rows.length:Int)))) 86 (.val (.int .i64 (i:Int)))) (fun(i:Nat)(G:GG)(u:Value) H'=>GU H3 H' G i W 0 (dP p) p.unit u ((List.range i).map p.unit)∧G.top = []∧G.bb = []∧i≤p.rows.length) 0 g0 (.slice none 0 0) (⟨aku,rfl,rfl,Nat.zero_le _⟩) (by repeat (first | exact iV _ | refine dB rfl ?_ | refine dB (jk (by first | omega | (simp;done) | rfl)) ?_)) ?_)
  rintro i G u H4 ⟨hU,TX,hGb,hi⟩
  have vd:((List.range i).map p.unit).length=i:=by simp
  refine ag (ab 1 rfl (ae [1,2,4,5,8,13,14,15,16,84,85,86,87] ?_));refine aq (aD rfl (fun hb=> ?_) (fun hb=> ?_))
  ·
   have aU:i<p.rows.length:=by simpa using hb
   obtain⟨r,hr⟩:∃r,p.rows[i]? = some r:=⟨_,List.getElem?_eq_getElem aU⟩
   have mh:(p.rows.length:Nat)=(p.rows.map fE).length:=by simp
   obtain⟨vs5,aj0,TY,abi⟩:=gD.get (show (p.rows.map fE)[i]? = some (fE r) by rw[List.getElem?_map,hr];rfl);obtain⟨A5,c5,L5,f5,B1,k1,e1,B2,k2,e2,rfl,rfl⟩:=fA.cells TY;have TZ:ct H3 (.agg #[.bool f5,.slice B1 k1 e1,.slice B2 k2 e2]) (fE r).2.2 (N+2):=fA.bound TY;have akF:aR (bR (N+2)) 3 H3 (.slice A5 (fE r).1.length c5) (fE r).1:=fA.ZV TY;obtain⟨A5',c5',x5,e5,nG,akG,q3⟩:=id akF
   cases e5
   rw[akB]at abi;have Fl:=bx.row i r hr;have lO:=bx.valid i aU;have JO:p.aK i=1∨p.aK i = -1:=sH _ _;have cW:=abe hr;rw[akA hr]at TZ;have ho:=S2 lO JO;obtain⟨eH,ee⟩:=abf lO JO;have sx:=(sI p.lp.rel p.c1 i);have hu9:=(tW p.lp.rel p.aK p.u i);have HL:bD p.lp.rel p.c1 (i+1)=bD p.lp.rel p.c1 i+(if p.lp.rel i=2 then 0 else 1):=rfl;have abj:aY p.lp.rel p.aK p.u (i+1)=aY p.lp.rel p.aK p.u i+(if fe (p.lp.rel i) (p.aK i)then 0 else 1):=rfl;refine aA (aj [1,2,4,5,8,13,14,15,16,84,85,86] rfl ?_);refine aq (aG (ag (ck (vs:=[.slice A5 r.1.length c5,.int .i64 (fE r).2.1,.bool f5,.slice B1 k1 e1,.slice B2 k2 e2]) ah rfl rfl rfl rfl (xe.le hU.hle) rfl (by decide) abi (by omega) (by omega) fun _=>(bn gL rfl ?_))));obtain⟨ti,ak,al⟩:=nY;refine aI (.inl ⟨rfl,rfl⟩) rfl rfl rfl ak al rfl rfl rfl (ae [1,2,4,5,8,13,14,15,16,18,84,85,86] ?_);refine ag (ab 2 rfl (aH rfl rfl ⟨by omega,by omega⟩ (aH rfl rfl ⟨by omega,by omega⟩ (gJ Tryz.underlying26 bZ rfl rfl rfl (by omega) (by omega) (by omega) (by omega) ?_))));intro z hz;rw[show ((p.u:Int)+(p.af p.rows.length:Int)+1).toNat=W by omega];have CU:=hU.start (C:=lW W (fun _=>0) 0) (xs:=cD [.bool false,.slice none 0 0,.slice none 0 0] (W*3)) hz NG
   refine ab 1 rfl (ae [1,2,4,5,8,13,14,15,16,18,19,84,85,86] ?_);refine aq (ag (ab 3 rfl (ae [1,2,4,5,8,13,14,15,16,18,19,84,85,86,96,97] ?_)));refine aG (gK (fun(k:Nat)=>W-k) (fun(k:Nat)=>put (put (put (put (put (put (put (put (put (put (put (put (put (put (put (put (emp) 1 (.box [.slice Af p.free.length cf,.slice Ar p.rows.length cr])) 2 (.box [.slice none 0 0,.slice none 0 0])) 4 (.box [.bool t4.f,.slice t4.A1 t4.m1 t4.c1,.slice t4.A2 t4.m2 t4.c2])) 5 (.box [.bool t5.f,.slice t5.A1 t5.m1 t5.c1,.slice t5.A2 t5.m2 t5.c2])) 8 (.val (.int .i64 (p.af p.rows.length:Int)))) 13 (.val (.int .i64 (p.u:Int)))) 14 (.box [.slice G.Ar i G.cr,u])) 15 (.val (.int .i64 (bD p.lp.rel p.c1 i:Int)))) 16 (.val (.int .i64 (aY p.lp.rel p.aK p.u i:Int)))) 18 (.box [.slice A5 r.1.length c5,.int .i64 (fE r).2.1,.bool f5,.slice B1 k1 e1,.slice B2 k2 e2])) 19 (.val (.slice (some ⟨z,0,none⟩) W W))) 84 (.val (.slice A3 p.rows.length c3))) 85 (.val (.int .i64 (p.rows.length:Int)))) 86 (.val (.int .i64 (i:Int)))) 96 (.val (.int .i64 (W:Int)))) 97 (.val (.int .i64 (k:Int)))) (fun(k:Nat) H'=>SZ (lW W (fun _=>0) k) H3 H' G i W 0 (dP p) p.unit u ((List.range i).map p.unit) z∧k≤W) 0 (⟨CU,Nat.zero_le _⟩) au ?_);rintro k H5 ⟨hS,hk⟩;obtain⟨xs,hx,hC⟩:=hS.row;have cP:=JN hC hk;refine ag (vr 1 ?_)
   refine ae [1,2,4,5,8,13,14,15,16,18,19,84,85,86,96,97,98] ?_;refine aq (aD rfl (fun hb=> ?_) (fun hb=> ?_))
   ·
    have fq:k<W:=by simpa using hb
    refine aA (aj [1,2,4,5,8,13,14,15,16,18,19,84,85,86,96,97] rfl ?_);refine aq (aG (ag (ab 2 rfl (ae [1,2,4,5,8,13,14,15,16,18,19,20,84,85,86,96,97] ?_))));refine aC rfl (vr 3 ?_);obtain⟨ti,ak,al⟩:=a6;refine cV (.inl rfl) ah rfl rfl rfl (by omega) (by omega) (hx) rfl (by show 0+W*3≤xs.length;omega) ak al (fun _=>rfl) rfl rfl rfl fun _=> ?_;refine az ?_;rw[pP,Int.toNat_natCast];have ko:=hS.set (.refl _ _) (ND hC fq (show bX _ [_,_,_] _ from cI.le hS.le));refine aj [1,2,4,5,8,13,14,15,16,18,19,84,85,86,96,97] rfl ?_;refine aC rfl (aH rfl rfl ⟨by omega,by omega⟩ (ab 1 rfl (az ?_)));exact⟨k+1,by omega,au,ko,by omega⟩
   have fq:W≤k:=by simpa using hb
   obtain rfl:k=W:=by omega
   have CV:=hS.to (C':=ly k (fg p (p.lp.a i) (p.aK i:Rat) 0)) fun _ h=>NF h;refine aW (aj [1,2,4,5,8,13,14,15,16,18,19,84,85,86] rfl ?_);refine ag (ab 4 rfl (ae [1,2,4,5,8,13,14,15,16,18,19,21,84,85,86] ?_));refine aq (ag (ab 4 rfl (ae [1,2,4,5,8,13,14,15,16,18,19,21,84,85,86,110,111] ?_)));refine aG (gK (fun(j:Nat)=>p.free.length-j) (fun(j:Nat)=>put (put (put (put (put (put (put (put (put (put (put (put (put (put (put (put (put (emp) 1 (.box [.slice Af p.free.length cf,.slice Ar p.rows.length cr])) 2 (.box [.slice none 0 0,.slice none 0 0])) 4 (.box [.bool t4.f,.slice t4.A1 t4.m1 t4.c1,.slice t4.A2 t4.m2 t4.c2])) 5 (.box [.bool t5.f,.slice t5.A1 t5.m1 t5.c1,.slice t5.A2 t5.m2 t5.c2])) 8 (.val (.int .i64 (p.af p.rows.length:Int)))) 13 (.val (.int .i64 (p.u:Int)))) 14 (.box [.slice G.Ar i G.cr,u])) 15 (.val (.int .i64 (bD p.lp.rel p.c1 i:Int)))) 16 (.val (.int .i64 (aY p.lp.rel p.aK p.u i:Int)))) 18 (.box [.slice A5 r.1.length c5,.int .i64 (fE r).2.1,.bool f5,.slice B1 k1 e1,.slice B2 k2 e2])) 19 (.val (.slice (some ⟨z,0,none⟩) k k))) 84 (.val (.slice A3 p.rows.length c3))) 85 (.val (.int .i64 (p.rows.length:Int)))) 86 (.val (.int .i64 (i:Int)))) 21 (.val (.int .i64 (p.mi j:Int)))) 110 (.val (.int .i64 (p.free.length:Int)))) 111 (.val (.int .i64 (j:Int)))) (fun(j:Nat) H'=>SZ (ly k (fg p (p.lp.a i) (p.aK i:Rat) j)) H3 H' G i k 0 (dP p) p.unit u ((List.range i).map p.unit) z∧j≤p.free.length) 0 (⟨CV,Nat.zero_le _⟩) (by repeat (first | exact iV _ | refine dB rfl ?_ | refine dB (jk (by first | omega | (simp;done) | rfl)) ?_)) ?_)
   rintro j H7 ⟨hS,hj⟩;obtain⟨xs,hx,hC⟩:=hS.row;have cP:=yi hC;refine ag (ab 1 rfl (ae [1,2,4,5,8,13,14,15,16,18,19,21,84,85,86,110,111,112] ?_));refine aq (aD rfl (fun hb=> ?_) (fun hb=> ?_))
   ·
    have gU:j<p.free.length:=by simpa using hb
    obtain⟨uf,rb,kG⟩:=gS j _ (List.getElem?_eq_getElem gU);have kG: [uf] = [Value.bool p.free[j]]:=kG
    cases kG
    have nT:p.lp.free j=p.free[j]:=Prg.Bv (List.getElem?_eq_getElem gU);obtain⟨g6,G1,n1,o1,G2,n2,o2,Jz,pN,JP⟩:=aR.pI q3 (akC hr (List.getElem?_eq_getElem (show j<r.1.length by rw[Fl.1];exact gU)));have aaA:=Nf (p:=p) (j:=j);have T1:=pN.size;refine aA (aj [1,2,4,5,8,13,14,15,16,18,19,21,84,85,86,110,111] rfl ?_);refine aq (aG (ag (ab 2 rfl (ae [1,2,4,5,8,13,14,15,16,18,19,21,22,84,85,86,110,111] ?_))));refine ag (ab 5 rfl (ck (vs:=[.bool g6,.slice G1 n1 o1,.slice G2 n2 o2]) ah rfl rfl rfl rfl (akG.le hS.hle) rfl (by decide) JP (by have:=Fl.1;omega) (by have:=Fl.1;omega) fun _=> ?_));refine aF rfl rfl (Fn.kq hS.q.ne (qg (pN.le hS.le) (by omega))) ?_;rintro v8 H8 gy;obtain⟨t8,rfl,ft⟩:=gy.val;have rD:=(gy.kept.same z SZ.m7).trans hx;obtain⟨ti,ak,al⟩:=a6;refine cV (.inl rfl) ah rfl rfl rfl (by omega) (by omega) (rD) rfl (by show 0+k*3≤xs.length;omega) ak al (fun _=>rfl) rfl rfl rfl fun _=> ?_;refine ae [1,2,4,5,8,13,14,15,16,18,19,21,22,84,85,86,110,111] ?_;rw[pP,Int.toNat_natCast];have ko:=hS.vX gy.kept hC (show j<k by omega) (show bX _ [_,_,_] _ from ft);refine ag (ab 3 rfl (aS ah rfl rfl rfl rfl rfl (iv.le (abh.trans ko.hle)) (by rw[Int.toNat_natCast];exact rb) (by omega) (by omega) fun _=> ?_))
    refine ae [1,2,4,5,8,13,14,15,16,18,19,21,22,84,85,86,110,111,127] ?_;refine aD rfl (fun hb=> ?_) (fun hb=> ?_)
    ·
     have fM:p.lp.free j=true:=by rw[nT];simpa using hb
     have xY:p.mi j<k:=by have:=vT (p:=p) (j:=j) gU fM;omega
     obtain⟨ys,hy,hD⟩:=ko.row;have kV:=yi hD;obtain⟨t9,yd,Hm⟩:=mB hD (show j<k by omega);rw[jI]at yd;have zY:aP (p.lp.a i j*(p.aK i:Rat))≤N+4:=T1;refine ag (ab 4 rfl (ck (vs:=[.bool t9.f,.slice t9.A1 t9.m1 t9.c1,.slice t9.A2 t9.m2 t9.c2]) ah rfl rfl rfl rfl (dW hy) rfl (by decide) (by rw[Int.toNat_natCast];exact Hm) (by omega) (by omega) fun _=> ?_));refine aF rfl rfl (Fn.kq ko.q.ne (Es ((bK.raw yd).mono zY) (by omega))) ?_;rintro v10 xC s3;obtain⟨t10,rfl,oD⟩:=s3.val;have z8:=(s3.kept.same z SZ.m7).trans hy;obtain⟨ti,ak,al⟩:=a6;refine cV (.inl rfl) ah rfl rfl rfl (by omega) (by omega) (z8) rfl (by show 0+k*3≤ys.length;omega) ak al (fun _=>rfl) rfl rfl rfl fun _=> ?_;refine ae [1,2,4,5,8,13,14,15,16,18,19,21,84,85,86,110,111] ?_;rw[pP,Int.toNat_natCast];have Fm:=ko.vX s3.kept hD xY (show bX _ [_,_,_] _ from oD);refine aC rfl (ab 1 rfl (aH rfl rfl ⟨by omega,by omega⟩ (ab 1 rfl (az (aj [1,2,4,5,8,13,14,15,16,18,19,21,84,85,86,110,111] rfl ?_)))));refine aC rfl (aH rfl rfl ⟨by omega,by omega⟩ (ab 1 rfl (az ?_)))
     have e8:p.mi (j+1)=p.mi j+1:=by rw[vU,if_pos fM]
     exact⟨j+1,by omega,au,by unfold fg;rw[if_pos fM];exact Fm,by omega⟩
    have fM:¬p.lp.free j=true:=by rw[nT];simpa using hb
    refine aA (aj [1,2,4,5,8,13,14,15,16,18,19,21,84,85,86,110,111] rfl ?_);refine aC rfl (aH rfl rfl ⟨by omega,by omega⟩ (ab 1 rfl (az ?_)))
    have e8:p.mi (j+1)=p.mi j:=by rw[vU,if_neg fM,Nat.add_zero]
    exact⟨j+1,by omega,au,by unfold fg;rw[if_neg fM];exact ko,by omega⟩
   have gU:p.free.length≤j:=by simpa using hb
   obtain rfl:j=p.free.length:=by omega
   have Xz:=TZ.size;refine aW (aj [1,2,4,5,8,13,14,15,16,18,19,84,85,86] rfl ?_);refine ag (ab 3 rfl (cY rfl rfl ⟨by omega,by omega⟩ (ab 2 rfl (aF rfl rfl (Fn.kq hS.q.ne (qg (TZ.le hS.le) (by omega))) ?_))));rintro v8 H8 gy;obtain⟨t8,rfl,ft⟩:=gy.val;have rD:=(gy.kept.same z SZ.m7).trans hx;obtain⟨ti,ak,al⟩:=a6;refine cV (.inl rfl) ah rfl rfl rfl (by omega) (by omega) (rD) rfl (by show 0+k*3≤xs.length;omega) ak al (fun _=>rfl) rfl rfl rfl fun _=> ?_;refine ae [1,2,4,5,8,13,14,15,16,18,19,84,85,86] ?_;rw[pP,show ((k:Int)-1).toNat=p.w by omega];have ko:SZ (ly k (TW p i)) _ _ _ _ _ _ _ _ _ _ _:=hS.vX gy.kept hC (show p.w<k by omega) (show bX _ [_,_,_] _ from ft);obtain⟨ys,hy,hD⟩:=ko.row;have kV:=yi hD;refine ag (ab 2 rfl (ae [1,2,4,5,8,13,14,15,16,18,19,23,84,85,86] ?_));refine kI (fun(b9:Bool)=>put (put (put (put (put (put (put (put (put (put (put (put (put (put (put (emp) 1 (.box [.slice Af p.free.length cf,.slice Ar p.rows.length cr])) 2 (.box [.slice none 0 0,.slice none 0 0])) 4 (.box [.bool t4.f,.slice t4.A1 t4.m1 t4.c1,.slice t4.A2 t4.m2 t4.c2])) 5 (.box [.bool t5.f,.slice t5.A1 t5.m1 t5.c1,.slice t5.A2 t5.m2 t5.c2])) 8 (.val (.int .i64 (p.af p.rows.length:Int)))) 13 (.val (.int .i64 (p.u:Int)))) 14 (.box [.slice G.Ar i G.cr,u])) 15 (.val (.int .i64 (bD p.lp.rel p.c1 (i+1):Int)))) 16 (.val (.int .i64 (aY p.lp.rel p.aK p.u i:Int)))) 18 (.box [.slice A5 r.1.length c5,.int .i64 (fE r).2.1,.bool f5,.slice B1 k1 e1,.slice B2 k2 e2])) 19 (.val (.slice (some ⟨z,0,none⟩) k k))) 84 (.val (.slice A3 p.rows.length c3))) 85 (.val (.int .i64 (p.rows.length:Int)))) 86 (.val (.int .i64 (i:Int)))) 23 (.val (.int .i64 (bD p.lp.rel p.c1 i:Int)))) (fun(b9:Bool) H'=>SZ (ly k (Fk p i)) H3 H' G i k 0 (dP p) p.unit u ((List.range i).map p.unit) z) ?_ ?_
   ·
    refine ag (ab 3 rfl (ae [1,2,4,5,8,13,14,15,16,18,19,23,84,85,86,150] ?_));refine aD rfl (fun hb=> ?_) (fun hb=> ?_)
    ·
     have h2:¬p.lp.rel i=2:=fun h=>by have:=ee.2 h;simp at hb;omega
     have anB:=Ca (p:=p) aU h2;refine ag (vr 3 ?_);obtain⟨ti,ak,al⟩:=a6;refine cV (.inl rfl) ah rfl rfl rfl (by omega) (by omega) (hy) rfl (by show 0+k*3≤ys.length;omega) ak al (fun _=>rfl) rfl rfl rfl fun _=> ?_;refine ae [1,2,4,5,8,13,14,15,16,18,19,23,84,85,86] ?_;rw[pP,Int.toNat_natCast];have Ag:=ko.vX (.refl _ _) hD (show bD p.lp.rel p.c1 i<k by omega) (show bX _ [_,_,_] _ from eW.le ko.le);obtain⟨zs,hzz,hE⟩:=Ag.row;have AR:=yi hE;refine aq (ag (ab 3 rfl (ae [1,2,4,5,8,13,14,15,16,18,19,23,84,85,86,157] ?_)));refine aD rfl (fun hb=> ?_) (fun hb=> ?_)
     ·
      have h3:(fE r).2.1=3:=by simpa using hb
      refine aC rfl (ab 3 rfl (aF rfl rfl (Fn.kq Ag.q.ne (Es ((bK.raw (eW.le Ag.le)).mono pb) (by decide))) ?_));rintro v10 xC s3;obtain⟨t10,rfl,oD⟩:=s3.val;have z8:=(s3.kept.same z SZ.m7).trans hzz;obtain⟨ti,ak,al⟩:=a6;refine cV (.inl rfl) ah rfl rfl rfl (by omega) (by omega) (z8) rfl (by show 0+k*3≤zs.length;omega) ak al (fun _=>rfl) rfl rfl rfl fun _=> ?_;refine az ?_;rw[pP,Int.toNat_natCast];have Fm:=Ag.vX s3.kept hE (show bD p.lp.rel p.c1 i<k by omega) (show bX _ [_,_,_] _ from oD);refine aj [1,2,4,5,8,13,14,15,16,18,19,23,84,85,86] rfl ?_;refine aC rfl (ab 1 rfl (aH rfl rfl ⟨by omega,by omega⟩ (ab 1 rfl (az ?_))));rw[if_neg h2]at HL
      exact⟨true,au,by
       rw[akD]at Fm
       unfold Fk
       rw[if_neg h2,if_neg (by omega)];exact Fm⟩
     have h3:¬(fE r).2.1=3:=by simpa using hb
     have h22:¬kF (p.lp.rel i) (p.aK i)=2:=fun h=>h2 (ee.1 h);refine aA (aj [1,2,4,5,8,13,14,15,16,18,19,23,84,85,86] rfl ?_);refine aC rfl (ab 1 rfl (aH rfl rfl ⟨by omega,by omega⟩ (ab 1 rfl (az ?_))));rw[if_neg h2]at HL;exact⟨true,au,by unfold Fk;rw[if_neg h2,if_pos (by omega)];exact Ag⟩
    have h2:p.lp.rel i=2:=ee.1 (by rw[←cW];simpa using hb);refine aA ?_;rw[if_pos h2]at HL;exact⟨true,au,by unfold Fk;rw[if_pos h2];exact ko⟩
   rintro _ qu NI;obtain⟨akH,akI,abk⟩:=NI.row;have anC:=yi abk;refine kI (fun(b9:Bool)=>put (put (put (put (put (put (put (put (put (put (put (put (put (put (emp) 1 (.box [.slice Af p.free.length cf,.slice Ar p.rows.length cr])) 2 (.box [.slice none 0 0,.slice none 0 0])) 4 (.box [.bool t4.f,.slice t4.A1 t4.m1 t4.c1,.slice t4.A2 t4.m2 t4.c2])) 5 (.box [.bool t5.f,.slice t5.A1 t5.m1 t5.c1,.slice t5.A2 t5.m2 t5.c2])) 8 (.val (.int .i64 (p.af p.rows.length:Int)))) 13 (.val (.int .i64 (p.u:Int)))) 14 (.box [.slice G.Ar i G.cr,u])) 15 (.val (.int .i64 (bD p.lp.rel p.c1 (i+1):Int)))) 16 (.val (.int .i64 (aY p.lp.rel p.aK p.u (i+1):Int)))) 19 (.val (.slice (some ⟨z,0,none⟩) k k))) 84 (.val (.slice A3 p.rows.length c3))) 85 (.val (.int .i64 (p.rows.length:Int)))) 86 (.val (.int .i64 (i:Int)))) 23 (.val (.int .i64 (p.unit i:Int)))) (fun(b9:Bool) H'=>SZ (ly k (dP p i)) H3 H' G i k 0 (dP p) p.unit u ((List.range i).map p.unit) z) ?_ ?_
   ·
    refine ag (ab 3 rfl (ae [1,2,4,5,8,13,14,15,16,19,23,84,85,86,167] ?_));refine aD rfl (fun hb=> ?_) (fun hb=> ?_)
    ·
     have h4:¬(fE r).2.1=1:=by simpa using hb
     have h5:¬fe (p.lp.rel i) (p.aK i)=true:=fun h=>h4 (by have:=ho.1 h;omega);rw[if_neg h5]at abj;have qa:=vK h5;have hul:=ow p aU;refine ag (vr 4 ?_);obtain⟨ti,ak,al⟩:=a6;refine cV (.inl rfl) ah rfl rfl rfl (by omega) (by omega) (akI) rfl (by show 0+k*3≤akH.length;omega) ak al (fun _=>rfl) rfl rfl rfl fun _=> ?_;refine ab 1 rfl (ae [1,2,4,5,8,13,14,15,16,19,23,84,85,86] ?_);rw[pP,Int.toNat_natCast];have NJ:=NI.vX (.refl _ _) abk (show aY p.lp.rel p.aK p.u i<k by omega) (show bX _ [_,_,_] _ from eW.le NI.le);refine aC rfl (ab 1 rfl (aH rfl rfl ⟨by omega,by omega⟩ (ab 1 rfl (az ?_))));exact⟨true,au,by rw[abg,if_neg (by omega)];exact NJ⟩
    have h4:(fE r).2.1=1:=by simpa using hb
    have h5:=ho.2 (by omega);rw[if_pos h5]at abj;have qa:=zC h5;refine aA ?_;exact⟨true,au,by rw[abg,if_pos (by omega)];exact NI⟩
   rintro _ Fi abl;obtain⟨anD,anE,anF⟩:=abl.row;refine ep .bJ [0,1,2,5,6,7,3,4,10,8,9,11,12,13] follows (by kernel_rfl) ?_;refine ab 6 rfl (cR Tryz.underlying40 rP rfl rfl rfl rfl rfl rfl rfl ?_);intro gb bo;have abm:=abl.fresh Ae (e:=whole [.slice (some ⟨z,0,none⟩) k k] 26) bo;refine dK Tryz.underlying40 rP rfl rfl abm.q.rows (dE _ _ _ _ _ _) rfl (B9 _ _ _) (by omega) (by omega) ?_;intro v8 TP jJ;obtain⟨A9,c9,rfl⟩:=jJ.own.form;have T4:=abm.more (Nw jJ)
   replace T4:=T4.CP fun i' gi j' hj'=>show dP p i' j'=(if i'=i then dP p i else dP p i') j' by
    by_cases e9:i'=i
    ·rw[if_pos e9,e9]
    ·rw[if_neg e9]
   refine ab 1 rfl (cR Tryz.underlying94 jl rfl rfl rfl rfl rfl rfl rfl ?_);intro gc kg;have abn:=T4.fresh (e:=whole [.int .i64 (p.unit i:Int)] 3) kg;refine dK Tryz.underlying94 jl rfl rfl abn.own (dE _ _ _ _ _ _) rfl (sL _) (by omega) (by omega) ?_;intro u9 Mx ua;obtain⟨Au9,cu9,rfl⟩:=ua.own.form;have ru:=abn.app rfl ua;rw[←aiQ (f:=p.unit)]at ru;obtain⟨ti,ak,al⟩:=Gf;refine aI (.inr rfl) rfl rfl rfl ak al rfl rfl rfl (vr 1 ?_);obtain⟨ti,ak,al⟩:=uX;refine aI (.inr rfl) rfl rfl rfl ak al rfl rfl rfl (az (aj [1,2,4,5,8,13,14,15,16,84,85,86] rfl ?_));refine aC rfl (aH rfl rfl ⟨by omega,by omega⟩ (ab 1 rfl (az ?_)));exact⟨i+1,G.more G.top z _ A9 c9 i,_,by omega,au,ru,TX,hGb,by omega⟩
  have aU:p.rows.length≤i:=by simpa using hb
  obtain rfl:i=p.rows.length:=by omega
  obtain⟨Au,cu,rfl⟩:=hU.own.form;have abo:=hU.fin hGb;refine aW (aj [2,13,14] rfl ?_);refine ag (vr 2 ?_);obtain⟨ti,ak,al⟩:=OR;refine aI (.inl ⟨rfl,rfl⟩) rfl rfl rfl ak al rfl rfl rfl (ab 1 rfl (ae [2,3] ?_));obtain⟨bQ,aN,aO⟩:=OR;refine aE ⟨.inr rfl,_,.agg rfl Tryz.underlying103 aN aO (.tmp rfl (.nil)),?_⟩;exact⟨G.fin _,rfl,TX,abo.1,abh.trans abo.2⟩
end Go.aw
namespace Go.aw
open Go.Proofs Num Lp
theorem abp{M:Nat→Nat→Rat}{B:Nat→Nat}{n m N:Nat}(hN:1≤N)(hz:∀i,i<m→aP (M i n)≤N)(j:Nat):∀i,i≤m→aP (iR M B n i j)≤N:=by
 intro i
 induction i with
 | zero=>intro _;exact Nat.le_trans Ns hN
 | succ i ih=>
  intro hi
  unfold iR
  by_cases e:j=B i
  ·rw[e,jI];exact hz i (by omega)
  ·rw[eI e];exact ih (by omega)
theorem akJ{p:Prg}{a:Nat→Rat}{N:Nat}(h:∀j,aP (a j)≤N)(j:Nat):aP (jV p a j)≤2*N+1:=by
 unfold jV
 have h1:=h j
 have h2:=h (p.mi j)
 have h3:=tC (a j) (a (p.mi j))
 split <;> omega
theorem JQ{H H':Heap}{z:Nat}{e:Ent}(hz:H z=none)(hl:Heap.le H H'):Heap.le H (ins H' z e):=fun q en hq=>by
 obtain⟨Ev,h1,h2⟩:=hl q en hq
 exact⟨Ev,by rw[bg _ _ (fun(e':q=z)=>by rw[e',hz]at hq;cases hq)];exact h1,h2⟩
theorem akK{H:Heap}{G:GG}{R W m N N1:Nat}{M:Nat→Nat→Rat}{B:Nat→Nat}{p:Prg}{pv cv:Value}{c:List Rat}(h:cA iQ H G R W m M B)(SW:m≤R)(hp:ea N (rem H G.gs) pv p)(hc:aR (bR N) 3 (rem H G.gs) cv c)(fo:c.length=p.free.length)(sW:p.c1≤W)(hB:∀i,i<m→B i<W)(hR:(R:Int)≤900000)(hW:(W:Int)≤1000000)(hN:(N:Int)≤400000000)(hN1:(N1:Int)≤300000000000)(hz:∀i,i≤m→∀k,k<W→aP (lV M B (fg p (fn c) 1 p.lp.n) i k)≤N1)(x8:∀i,i<m→∀k,k<W→aP (M i k)≤N1):
 Fn Tryz.prog 69 #[pv,cv,.agg #[.slice G.Ar R G.cr,G.bv],.int .i64 (W:Int)] H (fun v H'=>∃z,v = .slice (some ⟨z,0,none⟩) W W∧SZ (ly W (lV M B (fg p (fn c) 1 p.lp.n) m)) (rem H G.gs) H' G R W m M B (.slice none 0 0) [] z∧Heap.le H H'):=by
 obtain⟨fv,fL,rfl,dO,eo⟩:=id hp
 obtain⟨Af,cf,xf,rfl,iv,gS⟩:=dO.one
 obtain⟨Ar,cr,xr,rfl,iM,eJ,gE⟩:=id eo
 obtain⟨Ab,cb,dr,fY⟩:=h.sZ
 rw[dr]
 have di:=xX (p:=p)
 have hpn:p.lp.n=p.free.length:=rfl
 have S9:p.free.length≤W:=Nat.le_trans di sW
 obtain⟨Ac,cc,xc,rfl,Mu,om,tP⟩:=id hc;refine aZ (args:=[_,_,_,_]) Tryz.func69 rfl rfl Tryz.ntmps69 rfl rfl fun w0=> ?_;refine aj [0,1,2,3] rfl ?_;refine ag (bW rfl rfl (bW rfl rfl (ab 1 rfl (ae [1,3,4,6] ?_))));refine ag (ab 1 rfl (gJ Tryz.underlying26 bZ rfl rfl rfl (by omega) (by omega) (by omega) (by omega) ?_));intro z js;rw[Int.toNat_natCast];have CU:=h.gu.start (C:=lW W (fun _=>0) 0) (xs:=cD [.bool false,.slice none 0 0,.slice none 0 0] (W*3)) js NG;refine ab 1 rfl (ae [1,4,6,9] ?_);refine aq (ag (ab 3 rfl (ae [1,4,6,9,19,20] ?_)));refine aG (gK (fun(k:Nat)=>W-k) (fun(k:Nat)=>put (put (put (put (put (put (emp) 1 (.val (.slice Ac c.length cc))) 4 (.box [.slice Af p.free.length cf,.slice Ar p.rows.length cr])) 6 (.box [.slice G.Ar R G.cr,.slice Ab m cb])) 9 (.val (.slice (some ⟨z,0,none⟩) W W))) 19 (.val (.int .i64 (W:Int)))) 20 (.val (.int .i64 (k:Int)))) (fun(k:Nat) H'=>SZ (lW W (fun _=>0) k) (rem H G.gs) H' G R W m M B (.slice none 0 0) [] z∧k≤W∧Heap.le H H') 0 (⟨CU,Nat.zero_le _,Heap.bC _ js⟩) au ?_);rintro k H2 ⟨hS,hk,eF⟩;obtain⟨xs,hx,hC⟩:=hS.row;have cP:=JN hC hk;refine ag (ab 1 rfl (ae [1,4,6,9,19,20,21] ?_))
 refine aq (aD rfl (fun hb=> ?_) (fun hb=> ?_))
 ·
  have fq:k<W:=by simpa using hb
  refine aA (aj [1,4,6,9,19,20] rfl ?_);refine aq (aG (ag (ab 2 rfl (ae [1,4,6,9,10,19,20] ?_))));refine aC rfl (ab 2 rfl (aF rfl rfl (Fn.kq hS.q.ne (qZ (n:=0) (by decide) (by decide))) ?_));rintro v8 H8 gy;obtain⟨t8,rfl,ft⟩:=gy.val;rw[show ((0:Int):Rat)=0 from rfl]at ft;have rD:=(gy.kept.same z SZ.m7).trans hx;obtain⟨ti,ak,al⟩:=a6;refine cV (.inl rfl) ah rfl rfl rfl (by omega) (by omega) (rD) rfl (by show 0+W*3≤xs.length;omega) ak al (fun _=>rfl) rfl rfl rfl fun _=> ?_;refine az ?_;rw[pP,Int.toNat_natCast];have ko:=hS.set gy.kept (ND (TV _ _ _ gy.kept.le hC) fq (show bX _ [_,_,_] _ from ft));refine aj [1,4,6,9,19,20] rfl ?_;refine aC rfl (aH rfl rfl ⟨by omega,by omega⟩ (ab 1 rfl (az ?_)));exact⟨k+1,by omega,au,ko,by omega,JQ js (eF.trans gy.le)⟩
 ·
  have fq:W≤k:=by simpa using hb
  obtain ek:k=W:=by omega
  rw[ek]at hS;have CV:=hS.to (C':=ly W (fg p (fn c) 1 0)) fun _ h=>NF h;refine aW (aj [1,4,6,9] rfl ?_);refine ag (ab 4 rfl (ae [1,4,6,9,11] ?_));refine aq (ag (ab 4 rfl (ae [1,4,6,9,11,33,34] ?_)));refine aG (gK (fun(j:Nat)=>p.free.length-j) (fun(j:Nat)=>put (put (put (put (put (put (put (emp) 1 (.val (.slice Ac c.length cc))) 4 (.box [.slice Af p.free.length cf,.slice Ar p.rows.length cr])) 6 (.box [.slice G.Ar R G.cr,.slice Ab m cb])) 9 (.val (.slice (some ⟨z,0,none⟩) W W))) 11 (.val (.int .i64 (p.mi j:Int)))) 33 (.val (.int .i64 (p.free.length:Int)))) 34 (.val (.int .i64 (j:Int)))) (fun(j:Nat) H'=>SZ (ly W (fg p (fn c) 1 j)) (rem H G.gs) H' G R W m M B (.slice none 0 0) [] z∧j≤p.free.length∧Heap.le H H') 0 (⟨CV,Nat.zero_le _,eF⟩) (by repeat (first | exact iV _ | refine dB rfl ?_ | refine dB (jk (by first | omega | (simp;done) | rfl)) ?_)) ?_);rintro j H3 ⟨hS,hj,eF⟩;obtain⟨xs,hx,hC⟩:=hS.row;have cP:=yi hC;refine ag (ab 1 rfl (ae [1,4,6,9,11,33,34,35] ?_));refine aq (aD rfl (fun hb=> ?_) (fun hb=> ?_))
  ·
   have gU:j<p.free.length:=by simpa using hb
   obtain⟨uf,rb,kG⟩:=gS j _ (List.getElem?_eq_getElem gU);have kG: [uf] = [Value.bool p.free[j]]:=kG
   cases kG
   have nT:p.lp.free j=p.free[j]:=Prg.Bv (List.getElem?_eq_getElem gU);obtain⟨g6,G1,n1,o1,G2,n2,o2,Jz,pN,JP⟩:=aR.pI tP (show c[j]? = some (fn c j*1) by rw[Rat.mul_one,List.getElem?_eq_getElem (by omega),mb (List.getElem?_eq_getElem (by omega))]);have T1:=pN.size;have aaA:=Nf (p:=p) (j:=j);refine aA (aj [1,4,6,9,11,33,34] rfl ?_);refine aq (aG (ag (ab 2 rfl (ae [1,4,6,9,11,12,33,34] ?_))));refine ag (ab 4 rfl (ck (vs:=[.bool g6,.slice G1 n1 o1,.slice G2 n2 o2]) ah rfl rfl rfl rfl (om.le (hS.le.trans (bt _ _))) rfl (by decide) JP (by omega) (by omega) fun _=>(aF rfl rfl (Fn.kq hS.q.ne (qg (pN.le hS.le) (by omega))) ?_)));rintro v8 H8 gy;obtain⟨t8,rfl,ft⟩:=gy.val;have rD:=(gy.kept.same z SZ.m7).trans hx;obtain⟨ti,ak,al⟩:=a6;refine cV (.inl rfl) ah rfl rfl rfl (by omega) (by omega) (rD) rfl (by show 0+W*3≤xs.length;omega) ak al (fun _=>rfl) rfl rfl rfl fun _=> ?_;refine ae [1,4,6,9,11,12,33,34] ?_;rw[pP,Int.toNat_natCast];have ko:=hS.vX gy.kept hC (show j<W by omega) (show bX _ [_,_,_] _ from ft);refine ag (ab 3 rfl (aS ah rfl rfl rfl rfl rfl (iv.le (ko.le.trans (bt _ _))) (by rw[Int.toNat_natCast];exact rb) (by omega) (by omega) fun _=> ?_))
   refine ae [1,4,6,9,11,12,33,34,49] ?_;refine aD rfl (fun hb=> ?_) (fun hb=> ?_)
   ·
    have fM:p.lp.free j=true:=by rw[nT];simpa using hb
    have xY:p.mi j<W:=Nat.lt_of_lt_of_le (vT (p:=p) (j:=j) gU fM) sW;obtain⟨ys,hy,hD⟩:=ko.row;have kV:=yi hD;obtain⟨t9,yd,Hm⟩:=mB hD (show j<W by omega);rw[jI]at yd;have zY:aP (fn c j*1)≤N+2:=T1;refine ag (ab 4 rfl (ck (vs:=[.bool t9.f,.slice t9.A1 t9.m1 t9.c1,.slice t9.A2 t9.m2 t9.c2]) ah rfl rfl rfl rfl (dW hy) rfl (by decide) (by rw[Int.toNat_natCast];exact Hm) (by omega) (by omega) fun _=> ?_));refine aF rfl rfl (Fn.kq ko.q.ne (Es ((bK.raw yd).mono zY) (by omega))) ?_;rintro v10 xC s3;obtain⟨t10,rfl,oD⟩:=s3.val;have z8:=(s3.kept.same z SZ.m7).trans hy;obtain⟨ti,ak,al⟩:=a6;refine cV (.inl rfl) ah rfl rfl rfl (by omega) (by omega) (z8) rfl (by show 0+W*3≤ys.length;omega) ak al (fun _=>rfl) rfl rfl rfl fun _=> ?_;refine ae [1,4,6,9,11,33,34] ?_;rw[pP,Int.toNat_natCast];have Fm:=ko.vX s3.kept hD xY (show bX _ [_,_,_] _ from oD);refine aC rfl (ab 1 rfl (aH rfl rfl ⟨by omega,by omega⟩ (ab 1 rfl (az (aj [1,4,6,9,11,33,34] rfl ?_)))));refine aC rfl (aH rfl rfl ⟨by omega,by omega⟩ (ab 1 rfl (az ?_)))
    have e8:p.mi (j+1)=p.mi j+1:=by rw[vU,if_pos fM]
    exact⟨j+1,by omega,au,by unfold fg;rw[if_pos fM];exact Fm,by omega,JQ js ((JQ js (eF.trans gy.le)).trans s3.le)⟩
   have fM:¬p.lp.free j=true:=by rw[nT];simpa using hb
   refine aA (aj [1,4,6,9,11,33,34] rfl ?_);refine aC rfl (aH rfl rfl ⟨by omega,by omega⟩ (ab 1 rfl (az ?_)))
   have e8:p.mi (j+1)=p.mi j:=by rw[vU,if_neg fM,Nat.add_zero]
   exact⟨j+1,by omega,au,by unfold fg;rw[if_neg fM];exact ko,by omega,JQ js (eF.trans gy.le)⟩
  have gU:p.free.length≤j:=by simpa using hb
  obtain rfl:j=p.free.length:=by omega
  refine aW (aj [6,9] rfl ?_);refine aq (ag (ab 4 rfl (ae [6,9,63,64] ?_)));refine aG (ij (fun(i:Nat)(f:Nat→Rat)=>m-i) (fun(i:Nat)(f:Nat→Rat)=>put (put (put (put (emp) 6 (.box [.slice G.Ar R G.cr,.slice Ab m cb])) 9 (.val (.slice (some ⟨z,0,none⟩) W W))) 63 (.val (.int .i64 (m:Int)))) 64 (.val (.int .i64 (i:Int)))) (fun(i:Nat)(f:Nat→Rat) H'=>SZ (ly W f) (rem H G.gs) H' G R W m M B (.slice none 0 0) [] z∧(∀q,q<W→f q=lV M B (fg p (fn c) 1 p.lp.n) i q)∧i≤m∧Heap.le H H') 0 (fg p (fn c) 1 p.lp.n) (⟨hS,fun _ _=>rfl,Nat.zero_le _,eF⟩) au ?_);rintro i f H4 ⟨hZ,hI,hi,eF⟩;obtain⟨zs,qG,sM⟩:=hZ.row;refine ag (ab 1 rfl (ae [6,9,63,64,65] ?_));refine aq (aD rfl (fun hb=> ?_) (fun hb=> ?_))
  ·
   have aU:i<m:=by simpa using hb
   have uz:=hB i aU;obtain⟨t4,NK,pc⟩:=mB sM uz;have Tp:=hz i hi (B i) uz;rw[←hI _ uz]at Tp;obtain⟨pi,cU⟩:=h.get (show i<R by omega);refine aA (aj [6,9,63,64] rfl ?_);refine aq (aG (ag (ab 2 rfl (ae [6,9,13,63,64] ?_))));refine ag (ab 4 rfl (aS ah rfl rfl rfl rfl rfl (fY hZ.q i aU) (by rw[Int.toNat_natCast];exact gO aU) (by omega) (by omega) fun _=> ?_));refine ck (vs:=[.bool t4.f,.slice t4.A1 t4.m1 t4.c1,.slice t4.A2 t4.m2 t4.c2]) ah rfl rfl rfl rfl (dW qG) rfl (by decide) (by rw[Int.toNat_natCast];exact pc) (by omega) (by omega) fun _=> ?_;refine bn bZ rfl ?_;obtain⟨ti,ak,al⟩:=a6;refine aI (.inl ⟨rfl,rfl⟩) rfl rfl rfl ak al rfl rfl rfl (ae [6,9,13,14,63,64] ?_);refine aq (ag (ab 1 rfl (aF rfl rfl (Fn.mg hZ.q.ne (xE (bK.raw NK) (by omega))) ?_)));rintro v5 H5 ⟨mR,gq,rfl⟩;have qw:=hZ.kept Ae mR;have w9:=NK.le mR.le;refine ab 1 rfl (ae [6,9,13,14,63,64,77] ?_);refine aD rfl (fun hb=> ?_) (fun hb=> ?_)
   ·
    skip
    refine aW (aj [6,9,63,64] rfl ?_);refine aC rfl (aH rfl rfl ⟨by omega,by omega⟩ (ab 1 rfl (az ?_)))
    exact⟨i+1,f,by omega,au,qw,fun q hq=>by
     rw[aaz (by rw[←hI _ uz];exact tO (by simpa using hb))];exact hI q hq,by omega,eF.trans gq⟩
   have TA:=qw.pJ;refine aA (aj [6,9,13,14,63,64] rfl ?_);refine ag (ab 3 rfl (ae [6,9,13,14,63,64,79,80] ?_));refine aG (ij (fun(q:Nat)(f2:Nat→Rat)=>W-q) (fun(q:Nat)(f2:Nat→Rat)=>put (put (put (put (put (put (put (put (emp) 6 (.box [.slice G.Ar R G.cr,.slice Ab m cb])) 9 (.val (.slice (some ⟨z,0,none⟩) W W))) 13 (.val (.int .i64 (i:Int)))) 14 (.box [.bool t4.f,.slice t4.A1 t4.m1 t4.c1,.slice t4.A2 t4.m2 t4.c2])) 63 (.val (.int .i64 (m:Int)))) 64 (.val (.int .i64 (i:Int)))) 79 (.val (.int .i64 (W:Int)))) 80 (.val (.int .i64 (q:Int)))) (fun(q:Nat)(f2:Nat→Rat) H'=>SZ (ly W f2) (rem H5 (G.on (z::(aB (.slice none 0 0)++G.top))).gs) H' G R W m M B (.slice none 0 0) [] z∧(∀j,f2 j=if j<q then f j-f (B i)*M i j else f j)∧q≤W∧Heap.le H H') 0 f (⟨TA,fun j=>by rw[if_neg (Nat.not_lt_zero _)],Nat.zero_le _,eF.trans gq⟩) au ?_);rintro q f2 H6 ⟨hY,T6,jU,eF⟩;obtain⟨ws,sX,nZ⟩:=hY.row;obtain⟨xi6,si6,Td,Te⟩:=hY.q.rB (G:=G.on _) cU;have p9:=yi nZ;refine ag (ab 1 rfl (ae [6,9,13,14,63,64,79,80,81] ?_));refine aq (aD rfl (fun hb=> ?_) (fun hb=> ?_))
   ·
    have sY:q<W:=by simpa using hb
    obtain⟨t5,abq,nG⟩:=mB nZ sY;obtain⟨t6,zk,qV⟩:=mB Te sY
    have e5:f2 q=f q:=by rw[T6 q,if_neg (by omega)]
    rw[e5]at abq;have vD:=hz i hi q sY;rw[←hI _ sY]at vD;have vE:=x8 i aU q sY;have Tm:=vp (f (B i)) (M i q);refine aA (aj [6,9,13,14,63,64,79,80] rfl ?_);refine aq (aG (ag (ab 2 rfl (ae [6,9,13,14,15,63,64,79,80] ?_))));refine ep .gH [0,1,2,3,4,5,6,7,8,9,10,11,12,13,14,15,16,17,18] follows (ia [0,0,0,0,12,28,0,0,128,0,896,1920,0,8064,16256,32704,65532,131071,262143] (by kernel_rfl)) ?_;refine ab 4 rfl (ck (vs:=[.bool t5.f,.slice t5.A1 t5.m1 t5.c1,.slice t5.A2 t5.m2 t5.c2]) ah rfl rfl rfl rfl (dW sX) rfl (by decide) (by rw[Int.toNat_natCast];exact nG) (by omega) (by omega) fun _=> ?_);refine ab 4 rfl (aS ah rfl rfl rfl rfl rfl (hY.q.hd) (by rw[Int.toNat_natCast];exact kE (rg:=G.rg) (W:=_) cU) (by omega) (by omega) fun _=> ?_);refine ab 1 rfl (ck (vs:=[.bool t6.f,.slice t6.A1 t6.m1 t6.c1,.slice t6.A2 t6.m2 t6.c2]) ah rfl rfl rfl rfl (dW Td) rfl (by decide) (by rw[Int.toNat_natCast];exact qV) (by omega) (by omega) fun _=> ?_);refine a8 rfl rfl (Fn.kq hY.q.ne (L1 (N:=N1) ((bK.raw (w9.le hY.le)).mono Tp) ((bK.raw zk).mono vE) (by omega))) (fun _ _ h=>by first | exact h.le | exact h.1) ?_;rintro v7 H7 Fo;obtain⟨t7,rfl,jb⟩:=Fo.val;have hY7:=hY.kept Ae Fo.kept
    refine a8 rfl rfl (Fn.kq hY7.q.ne (Et (N:=2*N1) ((bK.raw (abq.le Fo.kept.le)).mono (by omega)) ((bK.raw jb).mono (by omega)) (by omega))) (fun _ _ h=>by first | exact h.le | exact h.1) ?_;rintro v8 H8 gy;obtain⟨t8,rfl,ft⟩:=gy.val;have Tf:=(gy.kept.same z SZ.m7).trans ((Fo.kept.same z SZ.m7).trans sX);obtain⟨ti,ak,al⟩:=a6;refine cV (.inr rfl) ah rfl rfl rfl (by omega) (by omega) (Tf) rfl (by show 0+W*3≤ws.length;omega) ak al (fun _=>rfl) rfl rfl rfl fun _=> ?_;refine az ?_;rw[pP,Int.toNat_natCast];have Tg:=hY7.vX gy.kept (Ae _ _ _ Fo.kept.le nZ) sY (show bX _ [_,_,_] _ from ft);refine aj [6,9,13,14,63,64,79,80] rfl ?_;refine aC rfl (aH rfl rfl ⟨by omega,by omega⟩ (ab 1 rfl (az ?_)))
    exact⟨q+1,bY f2 q (f q-f (B i)*M i q),by omega,au,Tg,fun j=>by
     by_cases ej:j=q
     ·
      subst ej;rw[rp,if_pos (by omega)]
     ·
      rw[pL ej,T6 j]
      by_cases hj:j<q
      ·rw[if_pos hj,if_pos (by omega)]
      ·rw[if_neg hj,if_neg (by omega)],by omega,JQ js ((eF.trans Fo.le).trans gy.le)⟩
   have sY:W≤q:=by simpa using hb
   obtain rfl:q=W:=by omega
   refine aW (aj [6,9,63,64] rfl ?_);refine aC rfl (aH rfl rfl ⟨by omega,by omega⟩ (ab 1 rfl (az ?_)))
   exact⟨i+1,f2,by omega,au,hY.down qw.le,fun q hq=>by
    rw[T6 q,if_pos hq,hI q hq,hI _ uz];rfl,by omega,eF⟩
  have aU:m≤i:=by simpa using hb
  obtain rfl:i=m:=by omega
  refine aW (aj [9] rfl ?_);refine ag (ab 2 rfl (ae [8] ?_));refine aE ⟨.inr rfl,_,.tmp rfl (.nil),?_⟩;exact⟨z,rfl,hZ.to fun xs hx=>by show bE _ _ _ _;rw[←lI (f:=f) (fun j hj=>hI j hj)];exact hx,eF⟩
theorem akL{H:Heap}{G:GG}{R W m N N1:Nat}{M:Nat→Nat→Rat}{B:Nat→Nat}{p:Prg}{pv:Value}(h:cA iQ H G R W m M B)(SW:m≤R)(hp:ea N (rem H G.gs) pv p)(sW:p.c1≤W)(hW1:1≤W)(hB:∀i,i<m→B i<W)(hR:(R:Int)≤900000)(hW:(W:Int)≤1000000)(hN1:(N1:Int)≤300000000000)(h1N:1≤N1)(x8:∀i,i<m→aP (M i (W-1))≤N1):
 Fn Tryz.prog 70 #[pv,.agg #[.slice G.Ar R G.cr,G.bv],.int .i64 (W:Int)] H (fun v H'=>Heap.le H H'∧aR bX 3 H' v (aL (jV p (iR M B (W-1) m)) p.free.length)):=by
 obtain⟨fv,fL,rfl,dO,eo⟩:=id hp
 obtain⟨Af,cf,xf,rfl,iv,gS⟩:=dO.one
 obtain⟨Ar,cr,xr,rfl,iM,eJ,gE⟩:=id eo
 obtain⟨Ab,cb,dr,fY⟩:=h.sZ
 rw[dr]
 have di:=xX (p:=p)
 have hpn:p.lp.n=p.free.length:=rfl
 have S9:p.free.length≤W:=Nat.le_trans di sW
 have cQ:=abp (B:=B) (n:=W-1) h1N x8;refine aZ (args:=[_,_,_]) Tryz.func70 rfl rfl Tryz.ntmps70 rfl rfl fun w0=> ?_;refine aj [0,1,2] rfl ?_;refine ag (bW rfl rfl (bW rfl rfl (ab 1 rfl (ae [2,3,4] ?_))));refine ag (ab 1 rfl (gJ Tryz.underlying26 bZ rfl rfl rfl (by omega) (by omega) (by omega) (by omega) ?_));intro z js;rw[Int.toNat_natCast];have CU:=h.gu.start (C:=lW W (fun _=>0) 0) (xs:=cD [.bool false,.slice none 0 0,.slice none 0 0] (W*3)) js NG;have BZ:Heap.le H (ins H z ⟨cD [.bool false,.slice none 0 0,.slice none 0 0] (W*3),W*3,31,true⟩):=Heap.bC _ js;refine ab 1 rfl (ae [2,3,4,7] ?_);refine aq (ag (ab 3 rfl (ae [2,3,4,7,17,18] ?_)));refine aG (gK (fun(k:Nat)=>W-k) (fun(k:Nat)=>put (put (put (put (put (put (emp) 2 (.val (.int .i64 (W:Int)))) 3 (.box [.slice Af p.free.length cf,.slice Ar p.rows.length cr])) 4 (.box [.slice G.Ar R G.cr,.slice Ab m cb])) 7 (.val (.slice (some ⟨z,0,none⟩) W W))) 17 (.val (.int .i64 (W:Int)))) 18 (.val (.int .i64 (k:Int)))) (fun(k:Nat) H'=>SZ (lW W (fun _=>0) k) (rem H G.gs) H' G R W m M B (.slice none 0 0) [] z∧k≤W∧∀q,q∈G.gs→H' q=H q) 0 (⟨CU,Nat.zero_le _,fun q hq=>bg _ _ fun(e:q=z)=>h.ne q hq (by rw[e];exact js)⟩) au ?_)
 rintro k H2 ⟨hS,hk,wk⟩;obtain⟨xs,hx,hC⟩:=hS.row;have cP:=JN hC hk;refine ag (ab 1 rfl (ae [2,3,4,7,17,18,19] ?_));refine aq (aD rfl (fun hb=> ?_) (fun hb=> ?_))
 ·
  have fq:k<W:=by simpa using hb
  refine aA (aj [2,3,4,7,17,18] rfl ?_);refine aq (aG (ag (ab 2 rfl (ae [2,3,4,7,8,17,18] ?_))));refine aC rfl (ab 2 rfl (aF rfl rfl (Fn.kq hS.q.ne (qZ (n:=0) (by decide) (by decide))) ?_));rintro v8 H8 gy;obtain⟨t8,rfl,ft⟩:=gy.val;rw[show ((0:Int):Rat)=0 from rfl]at ft;have rD:=(gy.kept.same z SZ.m7).trans hx;obtain⟨ti,ak,al⟩:=a6;refine cV (.inl rfl) ah rfl rfl rfl (by omega) (by omega) (rD) rfl (by show 0+W*3≤xs.length;omega) ak al (fun _=>rfl) rfl rfl rfl fun _=> ?_;refine az ?_;rw[pP,Int.toNat_natCast];have ko:=hS.set gy.kept (ND (TV _ _ _ gy.kept.le hC) fq (show bX _ [_,_,_] _ from ft));refine aj [2,3,4,7,17,18] rfl ?_;refine aC rfl (aH rfl rfl ⟨by omega,by omega⟩ (ab 1 rfl (az ?_)));exact⟨k+1,by omega,au,ko,by omega,fun q hq=>by rw[bg _ _ (hS.zne hq),gy.kept.same q (List.mem_cons_of_mem _ hq)];exact wk q hq⟩
 ·
  have fq:W≤k:=by simpa using hb
  obtain ek:k=W:=by omega
  rw[ek]at hS;have CV:=hS.to (C':=ly W (iR M B (W-1) 0)) fun _ h=>NF h;refine aW (aj [2,3,4,7] rfl ?_);refine aq (ag (ab 4 rfl (ae [2,3,4,7,28,29] ?_)));refine aG (gK (fun(i:Nat)=>m-i) (fun(i:Nat)=>put (put (put (put (put (put (emp) 2 (.val (.int .i64 (W:Int)))) 3 (.box [.slice Af p.free.length cf,.slice Ar p.rows.length cr])) 4 (.box [.slice G.Ar R G.cr,.slice Ab m cb])) 7 (.val (.slice (some ⟨z,0,none⟩) W W))) 28 (.val (.int .i64 (m:Int)))) 29 (.val (.int .i64 (i:Int)))) (fun(i:Nat) H'=>SZ (ly W (iR M B (W-1) i)) (rem H G.gs) H' G R W m M B (.slice none 0 0) [] z∧i≤m∧∀q,q∈G.gs→H' q=H q) 0 (⟨CV,Nat.zero_le _,wk⟩) au ?_);rintro i H3 ⟨hS,hi,wk⟩;obtain⟨xs,hx,hC⟩:=hS.row;have cP:=yi hC;refine ag (ab 1 rfl (ae [2,3,4,7,28,29,30] ?_));refine aq (aD rfl (fun hb=> ?_) (fun hb=> ?_))
  ·
   have aU:i<m:=by simpa using hb
   have uz:=hB i aU;obtain⟨pi,cU⟩:=h.get (show i<R by omega);obtain⟨xi,si,sS,xU⟩:=hS.q.rB (G:=G.on _) cU;obtain⟨t4,NK,pc⟩:=mB xU (show W-1<W by omega);refine aA (aj [2,3,4,7,28,29] rfl ?_);refine aq (aG (ag (ab 2 rfl (ae [2,3,4,7,9,28,29] ?_))));refine ep .gH [0,1,2,3,4,5,6,7,8,9,10,11,12,13,14,15,16] follows (ia [0,0,2,0,14,30,0,64,0,448,960,0,2048,8128,16320,32767,65535] (by kernel_rfl)) ?_;refine ab 4 rfl (aS ah rfl rfl rfl rfl rfl (fY hS.q i aU) (by rw[Int.toNat_natCast];exact gO aU) (by omega) (by omega) fun _=> ?_);refine ab 3 rfl (aS ah rfl rfl rfl rfl rfl (hS.q.hd) (by rw[Int.toNat_natCast];exact kE (rg:=G.rg) (W:=_) cU) (by omega) (by omega) fun _=> ?_);refine ab 1 rfl (cY rfl rfl ⟨by omega,by omega⟩ (ck (vs:=[.bool t4.f,.slice t4.A1 t4.m1 t4.c1,.slice t4.A2 t4.m2 t4.c2]) ah rfl rfl rfl rfl (dW sS) rfl (by decide) (by rw[show ((W:Int)-1).toNat=W-1 by omega];exact pc) (by omega) (by omega) fun _=> ?_));obtain⟨ti,ak,al⟩:=a6;refine cV (.inr rfl) ah rfl rfl rfl (by omega) (by omega) (hx) rfl (by show 0+W*3≤xs.length;omega) ak al (fun _=>rfl) rfl rfl rfl fun _=> ?_;refine az ?_;rw[pP,Int.toNat_natCast];have ko:=hS.vX (.refl _ _) hC uz (show bX _ [_,_,_] _ from NK)
   refine aj [2,3,4,7,28,29] rfl ?_;refine aC rfl (aH rfl rfl ⟨by omega,by omega⟩ (ab 1 rfl (az ?_)));exact⟨i+1,by omega,au,ko,by omega,fun q hq=>by rw[bg _ _ (hS.zne hq)];exact wk q hq⟩
  have aU:m≤i:=by simpa using hb
  obtain rfl:i=m:=by omega
  have CO:Rd H3 (some ⟨z,0,none⟩) xs:=dW hx;have hE:ly W (iR M B (W-1) i) H3 xs:=Ae _ _ _ (bt _ _) hC;have dV:Heap.le (rem H G.gs) H3:=hS.le.trans (bt _ _)
  have Tj:Heap.le H H3:=fun q en hq=>by
   by_cases hm:q∈G.gs
   ·exact⟨en,by rw[wk q hm];exact hq,.refl _⟩
   ·exact dV q en (by rw[bM hm];exact hq)
  have so:=fun j=>cQ j i (Nat.le_refl _);refine aW (aj [3,7] rfl ?_);refine ag (ab 3 rfl (gJ Tryz.underlying26 bZ rfl rfl rfl (by omega) (by omega) (by omega) (by omega) ?_));intro gx qR;have zX:=I3 (P:=bX) (e:=31) (sz:=3) (zs:=[.bool false,.slice none 0 0,.slice none 0 0]) (z:=0) (k:=(p.free.length:Int)) (c:=p.free.length) qR rfl (Int.toNat_natCast _) (by unfold maxLen;omega);rw[Int.toNat_natCast]at zX⊢;refine ab 1 rfl (ae [3,7,10] ?_);refine ag (ab 4 rfl (ae [3,7,10,11] ?_));refine aq (ag (ab 4 rfl (ae [3,7,10,11,58,59] ?_)));refine aG (fG (fun(j:Nat)(w:Value)(ws:List Value)=>p.free.length-j) (fun(j:Nat)(w:Value)(ws:List Value)=>put (put (put (put (put (put (emp) 3 (.box [.slice Af p.free.length cf,.slice Ar p.rows.length cr])) 7 (.val (.slice (some ⟨z,0,none⟩) W W))) 10 (.val (w))) 11 (.val (.int .i64 (p.mi j:Int)))) 58 (.val (.int .i64 (p.free.length:Int)))) 59 (.val (.int .i64 (j:Int)))) (fun(j:Nat)(w:Value)(ws:List Value) H'=>ed bX 31 3 H3 H' w (aL (jV p (iR M B (W-1) i)) j) ws∧j≤p.free.length) 0 _ _ (⟨zX,Nat.zero_le _⟩) (by repeat (first | exact iV _ | refine dB rfl ?_ | refine dB (jk (by first | omega | (simp;done) | rfl)) ?_)) ?_);rintro j w ws H5 ⟨hG,hj⟩
  obtain⟨A5,c5,e5⟩:=hG.form;rw[bh]at e5;subst e5;refine ag (ab 1 rfl (ae [3,7,10,11,58,59,60] ?_));refine aq (aD rfl (fun hb=> ?_) (fun hb=> ?_))
  ·
   have gU:j<p.free.length:=by simpa using hb
   obtain⟨t6,zk,qV⟩:=mB hE (show j<W by omega);obtain⟨uf,rb,kG⟩:=gS j _ (List.getElem?_eq_getElem gU);have kG: [uf] = [Value.bool p.free[j]]:=kG
   cases kG
   have nT:p.lp.free j=p.free[j]:=Prg.Bv (List.getElem?_eq_getElem gU);have vE:=so j;refine aA (aj [3,7,10,11,58,59] rfl ?_);refine aq (aG (ag (ab 2 rfl (ae [3,7,10,11,12,58,59] ?_))));refine ag (ab 2 rfl (ck (vs:=[.bool t6.f,.slice t6.A1 t6.m1 t6.c1,.slice t6.A2 t6.m2 t6.c2]) ah rfl rfl rfl rfl (CO.le hG.le) rfl (by decide) (by rw[Int.toNat_natCast];exact qV) (by omega) (by omega) fun _=> ?_));refine bn bZ rfl ?_;obtain⟨ti,ak,al⟩:=a6;refine aI (.inl ⟨rfl,rfl⟩) rfl rfl rfl ak al rfl rfl rfl (ae [3,7,10,11,12,13,58,59] ?_);refine AU (fun(t:RC)(a:Nat)=>put (put (put (put (put (put (put (emp) 3 (.box [.slice Af p.free.length cf,.slice Ar p.rows.length cr])) 7 (.val (.slice (some ⟨z,0,none⟩) W W))) 10 (.val (.slice A5 j c5))) 11 (.val (.int .i64 (a:Int)))) 13 (.box [.bool t.f,.slice t.A1 t.m1 t.c1,.slice t.A2 t.m2 t.c2])) 58 (.val (.int .i64 (p.free.length:Int)))) 59 (.val (.int .i64 (j:Int)))) (fun(t:RC)(a:Nat) H'=>ed bX 31 3 H3 H' (.slice A5 j c5) (aL (jV p (iR M B (W-1) i)) j) ws∧a=p.mi (j+1)∧bK (rem H' (aB (.slice A5 j c5))) t.v (jV p (iR M B (W-1) i) j)) ?_ ?_
   ·
    refine ag (ab 3 rfl (aS ah rfl rfl rfl rfl rfl (iv.le (dV.trans hG.le)) (by rw[Int.toNat_natCast];exact rb) (by omega) (by omega) fun _=> ?_));refine ae [3,7,10,11,13,58,59,70] ?_;refine aD rfl (fun hb=> ?_) (fun hb=> ?_)
    ·
     have fM:p.lp.free j=true:=by rw[nT];simpa using hb
     have xY:p.mi j<W:=Nat.lt_of_lt_of_le (vT gU fM) sW;obtain⟨t7,sP,sQ⟩:=mB hE xY;have Tm:=so (p.mi j);refine bP .bJ [0,1,2,3,4,5,6] follows (by kernel_rfl) ?_;refine ab 3 rfl (ck (vs:=[.bool t7.f,.slice t7.A1 t7.m1 t7.c1,.slice t7.A2 t7.m2 t7.c2]) ah rfl rfl rfl rfl (CO.le hG.le) rfl (by decide) (by rw[Int.toNat_natCast];exact sQ) (by omega) (by omega) fun _=> ?_);refine a8 rfl rfl (hG.call (Et (N:=N1) ((bK.raw (zk.le hG.base)).mono vE) ((bK.raw (sP.le hG.base)).mono Tm) (by omega)).rc) (fun _ _ h=>h.le fun _ _ h=>h.1) ?_;rintro _ H8 uA;have fV:=hG.jK dL uA fun _ _ h=>h.1;obtain⟨⟨_,t8,rfl,ft⟩,_⟩:=uA;obtain⟨ti,ak,al⟩:=a6;refine aI (.inl ⟨rfl,rfl⟩) rfl rfl rfl ak al rfl rfl rfl (ae [3,7,10,11,13,58,59] ?_);refine aC rfl (ab 1 rfl (aH rfl rfl ⟨by omega,by omega⟩ (ab 1 rfl (az ?_))));exact⟨t8,p.mi j+1,au,fV,by rw[vU,if_pos fM],by unfold jV;rw[if_pos fM];exact ft⟩
    have fM:¬p.lp.free j=true:=by rw[nT];simpa using hb
    refine aA ?_;exact⟨t6,p.mi j,au,hG,by rw[vU,if_neg fM,Nat.add_zero],by unfold jV;rw[if_neg fM];exact zk.le hG.base⟩
   rintro t a H9 ⟨kB,ua,fK⟩;subst ua;refine aC rfl (ab 2 rfl (cR Tryz.underlying26 bZ rfl rfl rfl rfl rfl rfl rfl ?_));intro gb bo;have Jq:=kB.ins dL (whole (cF [.agg #[.bool t.f,.slice t.A1 t.m1 t.c1,.slice t.A2 t.m2 t.c2]]) 31) bo;refine dK Tryz.underlying26 bZ rfl rfl Jq.own (dE _ _ _ _ _ _) rfl (zM _ _ _ _ _ _ _) (by rw[bh];omega) (by rw[bh];omega) ?_;intro W9 kz Tl;have kB:=Jq.append dL (k:=[jV p (iR M B (W-1) i) j]) (by simp) Tl (iE (dL _ _ _ _ (og _ (Heap.bC _ bo)) (show bX _ [_,_,_] _ from fK)) rfl);refine ab 1 rfl (az (aj [3,7,10,11,58,59] rfl ?_));refine aC rfl (aH rfl rfl ⟨by omega,by omega⟩ (ab 1 rfl (az ?_)));exact⟨j+1,_,_,by omega,au,by rw[xh];exact kB,by omega⟩
  have gU:p.free.length≤j:=by simpa using hb
  obtain rfl:j=p.free.length:=by omega
  refine aW (aj [10] rfl ?_);refine ag (ab 2 rfl (ae [6] ?_));refine aE ⟨.inr rfl,_,.tmp rfl (.nil),?_⟩;exact⟨Tj.trans hG.le,hG.sl dL⟩
end Go.aw
namespace Go.aw
open Go.Proofs Num Lp
section
variable {p:Prg} {c:List Rat} {M:Nat→Nat→Rat} {B:Nat→Nat} {T:ar} {L:Nat}
theorem akM{i:Nat}(hi:i<p.lp.m):pn p (p.unit i)=if p.u≤p.unit i then 1 else 0:=by
 show ar.jG _ _ _=_
 unfold ar.jG
 by_cases k:p.u≤p.unit i
 ·rw[if_pos k,if_pos ⟨k,ow p hi⟩]
 ·rw[if_neg k,if_neg (fun k'=>k k'.1)]
theorem abr(bx:p.Ok)(hf:Fits p c L){i j:Nat}(hi:i<p.lp.m)(hj:j≤p.w):aP (dP p i j)≤L:=by
 rw[S3 bx.valid hi hj];exact hf.tab i hi _
theorem akN(bx:p.Ok)(hf:Fits p c L){i j:Nat}(hi:i≤p.lp.m):aP (rC p (dP p) j i)≤2*L:=by
 have h1:=hf.one
 unfold rC
 by_cases hc:j<p.u∨j=p.w
 ·have hj:j≤p.w:=by have:=fp p;omega
  rw[if_pos hc]
  have e: -bB i (fun q=>if p.u≤p.unit q then dP p q j else 0)=gQ (qm p.eh (aw.pn p)) (aw.pn p) i (p.pi j):=by
   have hs:bB i (fun q=>aw.pn p ((qm p.eh (aw.pn p)).B q)*(qm p.eh (aw.pn p)).A q (p.pi j))=bB i (fun q=>if p.u≤p.unit q then dP p q j else 0):=eS fun q hq=>by
    show aw.pn p (p.unit q)*p.eh.A q (p.pi j)=_
    rw[akM (by omega),S3 bx.valid (by omega) hj]
    split <;> grind
   unfold gQ
   rw[hs]
   rcases hc with h1 | h2
   ·have h2:=fp p
    have h3:=zU h1
    have e:aw.pn p (p.pi j)=0:=ar.PW h3
    rw[if_neg (by show ¬p.pi j=p.w;omega),e];grind
   ·rw[h2,if_pos (show p.pi p.w=(qm p.eh (aw.pn p)).n from CJ)];grind
  rw[e]
  exact hf.Ri i hi _ (Nh hj)
 ·rw[if_neg hc];exact Nat.le_trans Ns (by omega)
theorem mA.sz(hf:Fits p c L)(h:mA p T):∀j,j<p.w+1→aP (T.c j)≤L∧∀i,i<p.lp.m→aP (T.A i j)≤L:=fun j hj=>by
 obtain⟨S,hI,hT⟩:=h
 have hS:=hf.Cf S hI
 have hn:=hT.ew
 have hp:=Nh (p:=p) (x:=j) (by omega)
 exact⟨by rw[hT.ec j (by omega)];exact hS.c _ (by omega),fun i hi=>by
  have:i<S.m:=by rw[hI.rows.m];exact hi
  rw[hT.eA i this j (by omega)];exact hS.A i this _ (by omega)⟩
theorem oC.sz(hf:Fits p c L)(h:oC p c T):∀j,j<p.w+1→aP (T.c j)≤L∧∀i,i<p.lp.m→aP (T.A i j)≤L:=fun j hj=>by
 obtain⟨S,hI,hT⟩:=h
 have hS:=hf.oV S hI.1
 have hn:=hT.ew
 have hp:=Nh (p:=p) (x:=j) (by omega)
 exact⟨by rw[hT.ec j (by omega)];exact hS.c _ (by omega),fun i hi=>by
  have:i<S.m:=by rw[hI.1.rows.m];exact hi
  rw[hT.eA i this j (by omega)];exact hS.A i this _ (by omega)⟩
theorem je.sz{k:Nat}(hf:Fits p c L)(h:je p k T):∀j,j<p.w+1→∀i,i<p.lp.m→aP (T.A i j)≤L:=fun j hj=>by
 obtain⟨S,hI,hT⟩:=h
 exact(mA.sz hf ⟨S,hI.1,hT⟩ j hj).2
theorem akO(hf:Fits p c L)(h:je p p.lp.m T)(hr:ib M B T p.lp.m (p.w+1)){i j:Nat}(hi:i≤p.lp.m)(hj:j<p.w+1):aP (lV M B (fg p (fn c) 1 p.lp.n) i j)≤2*L:=by
 obtain⟨S,hI,hT⟩:=h
 have hm:S.m=p.lp.m:=hI.1.rows.m
 have hW:=hT.wf hI.1.wf
 have hn:=hT.en.trans hT.ew
 have hj:j≤p.w:=by omega
 have e:lV M B (fg p (fn c) 1 p.lp.n) i j=gQ S (kA p c) i (p.pi j):=by
  have hu:∀i k,i<p.lp.m→k<p.lp.m→M k (B i)=if k=i then 1 else 0:=fun i k hi hk=>by
   have h1:=hW.lt i (by rw[hr.em];exact hi)
   rw[hr.eB i hi,hr.eA k hk _ (by omega)]
   exact hW.unit i k (by rw[hr.em];exact hi) (by rw[hr.em];exact hk)
  rw[aaI hu _ hi]
  unfold gQ
  have e1:fg p (fn c) 1 p.lp.n j=if p.pi j=S.n then 0 else kA p c (p.pi j):=by
   rw[Jn]
   by_cases e:p.pi j=S.n
   ·rw[if_pos e]
    have e':p.pi j=p.w:=e.trans hT.ew
    have h1:=Ik (p:=p) (c:=c)
    rw[e'];exact h1
   ·rw[if_neg e]
  rw[e1]
  congr 1
  refine eS fun i' gi=> ?_
  have h1:=hT.eB i' (by omega)
  rw[hr.eB i' (by omega),Jn,hr.eA i' (by omega) j (by omega),hT.eA i' (by omega) j hj,h1.1]
 rw[e]
 have:=Nh hj
 exact hf.Rj S hI.1 i (by omega) _ (by rw[hT.ew];exact this)
end
theorem akP{W k:Nat}{K:Heap}{xs vs:List Value}{f:Nat→Rat}{q:Rat}(h:lW W f (k+1) K xs)(hk:k<W)(hv:bX K vs q):lW W (bY f k q) (k+1) K (aM xs (k*3) vs):=by
 have h1:(fill (aL f W) (k+1)).set k (some q)=fill (aL (bY f k q) W) (k+1):=by
  have hl:k<(fill (aL f W) (k+1)).length:=by rw[nC (by rw[bh];omega),bh];exact hk
  apply List.ext_getElem?
  intro i
  rw[List.getElem?_set]
  by_cases e:k=i
  ·subst e
   rw[if_pos rfl,if_pos hl,yb (dM hk) (Nat.lt_succ_self k),jI]
  ·rw[if_neg e]
   by_cases hi:i<k+1
   ·rw[yb (dM (show i<W by omega)) hi,yb (dM (show i<W by omega)) hi,eI (fun h=>e h.symm)]
   ·by_cases hiW:i<W
    ·have hn:∀g:Nat→Rat,(fill (aL g W) (k+1))[i]? = some none:=fun g=>by
      unfold fill
      rw[List.getElem?_append_right (by rw[List.length_map,List.length_take,bh];omega),List.getElem?_replicate,if_pos (by rw[List.length_map,List.length_take,bh];omega)]
     rw[hn,hn]
    ·rw[List.getElem?_eq_none (by rw[nC (by rw[bh];omega),bh];omega),List.getElem?_eq_none (by rw[nC (by rw[bh];omega),bh];omega)]
 show bE _ _ _ _
 rw[←h1]
 exact h.set (by rw[nC (by rw[bh];omega),bh];exact hk) (show iq bX _ vs (some q)from hv) (iQ.len _ _ _ hv)
theorem akQ{W k:Nat}{K:Heap}{xs:List Value}{f g:Nat→Rat}(h:lW W f k K xs)(he:∀j,j<k→g j=f j)(hk:k≤W):lW W g k K xs:=by
 have e:fill (aL g W) k=fill (aL f W) k:=by
  unfold fill
  rw[bh,bh]
  congr 2
  apply List.ext_getElem?
  intro i
  rw[List.getElem?_take,List.getElem?_take]
  split
  ·rw[dM (by omega),dM (by omega),he i (by assumption)]
  ·rfl
 show bE _ _ _ _
 rw[e];exact h
theorem akR{W k n:Nat}{K:Heap}{xs:List Value}{f:Nat→Rat}(h:lW W f n K xs)(hk:k<n)(hn:n≤W):∃t:RC,bK K t.v (f k)∧∀(j:Nat)(v:Value),[.bool t.f,.slice t.A1 t.m1 t.c1,.slice t.A2 t.m2 t.c2][j]? = some v→xs[k*3+j]? = some v:=by
 obtain⟨vs,_,h2,h3⟩:=h.get (yb (dM (show k<W by omega)) hk)
 obtain⟨t,e,h4⟩:=bX.rc (show bX K vs (f k)from h2)
 subst e
 exact⟨t,h4,h3⟩
theorem cA.tab{H:Heap}{G:GG}{W m:Nat}{M:Nat→Nat→Rat}{B:Nat→Nat}(h:cA iQ H G m W m M B):∃Ab cb,G.bv = .slice Ab m cb∧Jr H G.Ar Ab G.rg m W M B∧∀{H' t R' M' B'},cA iQ H' (G.on t) R' W m M' B'→∀i,i<m→Rd H' Ab (eL B' m):=by
 obtain⟨Ab,cb,dr,fY⟩:=h.sZ
 refine⟨Ab,cb,dr,⟨h.iH,h.hd,fun i q hq=> ?_,?_⟩,fY⟩
 ·obtain⟨xs,sz,h1,h2⟩:=h.rB hq
  exact⟨xs,dW h1,h2.mono fun vs a=>dL _ _ vs a (bt _ _)⟩
 ·by_cases hm:0<m
  ·exact fY (t:=G.top) h 0 hm
  ·obtain rfl:m=0:=by omega
   intro i v hv
   simp[eL]at hv
theorem aR.T7{N M:Nat}{H:Heap}{v:Value}{l:List Rat}(h:aR (bR N) 3 H v l)(hl:N≤M):aR (bR M) 3 H v l:=h.mono fun _ _ a=>bR.mono a hl
def akS(p:Prg)(c:List Rat)(L:Nat)(H:Heap)(v:Value)(H':Heap):Prop:=Heap.le H H'∧∃(st:Int)(t:RC)(xv:Value)(q:Rat),v = .tuple #[.int .i64 st,t.v,xv]∧vV p c st q∧bK H' t.v q∧aP q≤L∧(st=1→∃x,aR bX 3 H' xv x∧x.length=p.free.length∧(∀q,q∈x→aP q≤2*L+17)∧q=bN p.free.length (fn c) (fn x))
theorem JR{p:Prg}{c:List Rat}{L:Nat}{st:Int}{q:Rat}(hf:Fits p c L)(h:vV p c st q):aP q≤L:=by
 have h1:=hf.one
 rcases h with ⟨_,_,T,hI,rfl⟩ | ⟨_,_,rfl⟩ | ⟨_,_,rfl⟩
 ·rw[wQ]
  have:=hI.1.rows.n
  exact(hf.oV T hI.1).c _ (by omega)
 ·exact Nat.le_trans Ns h1
 ·exact Nat.le_trans Ns h1
end Go.aw
namespace Go.aw
open Go.Proofs Num Lp
theorem akT{H:Heap}{p:Prg}{c:List Rat}{pv cv:Value}{N L:Nat}(bx:p.Ok)(fo:c.length=p.free.length)(hp:ea N H pv p)(hc:aR (bR N) 3 H cv c)(hN:N≤400000000)(hf:Fits p c L)(hL:L≤99999998):
 Fn Tryz.prog 13 #[pv,cv] H (akS p c L H):=by
 obtain⟨fv,fL,rfl,dO,eo⟩:=id hp
 have p9:=Ih p
 have Tq:=bx.iG
 have Tr:=bx.rows
 have ake:p.lp.m≤800:=Tr
 have aa6:p.lp.n≤400:=Tq
 have mU:=fp p
 have akf:=mr p
 have hL1:=hf.one;refine aZ (args:=[_,_]) Tryz.func13 rfl rfl Tryz.ntmps13 rfl rfl fun w0=> ?_;refine aj [0,1] rfl ?_;refine ag (bW rfl rfl (ab 1 rfl (bn bZ rfl (ab 1 rfl (ae [1,2,5] ?_)))));refine ag (ab 1 rfl (aF rfl rfl (akE bx hp hN) ?_));rintro _ H1 ⟨G,rfl,TX,o0,cH⟩;obtain⟨Ab,cb,dr,akU,fY⟩:=o0.tab;rw[dr];obtain⟨W,hW⟩:∃W,W=p.w+1:=⟨_,rfl⟩;refine ab 3 rfl (bn Kx rfl ?_);obtain⟨ti,ak,al⟩:=OR;refine aI (.inl ⟨rfl,rfl⟩) rfl rfl rfl ak al rfl rfl rfl (ab 1 rfl (ae [1,2,5,7,8] ?_));refine ag (aF rfl rfl (Fn.kq o0.ne (qZ (n:=0) (by decide) (by decide))) ?_);rintro v2 H2 NL;obtain⟨t9,rfl,fK⟩:=NL.val;rw[show ((0:Int):Rat)=0 from rfl]at fK;have eu:=o0.kept NL.kept;have dC:=cH.trans NL.kept.le;have T9:=dC.trans (bt _ _);refine bn bZ rfl ?_;obtain⟨ti,ak,al⟩:=a6;refine aI (.inl ⟨rfl,rfl⟩) rfl rfl rfl ak al rfl rfl rfl (ae [1,2,5,7,8,9] ?_);refine aq (ag (ab 4 rfl (aF rfl rfl (akd bx fo (hp.le T9) (hc.le (dz N) T9) (by omega) (akU.le NL.le) (fun i hi j hj=>abr bx hf hi hj) (by omega)) ?_)));rintro _ H3b ⟨st,xv,b,rfl,Ua,hQ⟩
 have NM:=T9.trans Ua;refine ab 7 rfl (ae [1,2,5,7,8,9,10,11,12] ?_);refine ag (ab 1 rfl (ae [1,2,5,7,8,9,10,11,36] ?_));refine aD rfl (fun hb=> ?_) (fun hb=> ?_)
 ·
  have hQ:=hQ (by simpa using hb);refine aq (ag (ab 2 rfl (ae [1,5,9,10,11,38] ?_)));refine aD rfl (fun hb=> ?_) (fun hb=> ?_)
  ·
   have dS:¬st=1:=by simpa using hb
   have hS:vV p c st 0:=by
    rcases hQ with ⟨h9,_⟩ | ⟨_,h9⟩
    ·exact absurd h9 dS
    ·exact h9
   refine bP .bJ [0,1,2,3,4,5] follows (by kernel_rfl) ?_;refine vr 4 ?_;obtain⟨ti,ak,al⟩:=a6;refine aI (.inl ⟨rfl,rfl⟩) rfl rfl rfl ak al rfl rfl rfl (ab 1 rfl (ae [4,5,6] ?_));obtain⟨NN,yj,yk⟩:=a6;refine aE ⟨.inr rfl,_,.tmp rfl (.agg rfl Tryz.underlying31 yj yk (.tmp rfl (.nil))),?_⟩;exact⟨NM,st,t9,xv,0,rfl,hS,(fK.le (bt _ _)).le Ua,JR hf hS,fun h9=>absurd h9 dS⟩
  ·
   have dS:st=1:=by simpa using hb
   obtain⟨x,hx,cP,hS,hxz⟩:∃x,aR bX 3 H3b xv x∧x.length=p.free.length∧vV p c 1 (bN p.free.length (fn c) (fn x))∧∀q,q∈x→aP q≤17:=by
    rcases hQ with ⟨_,h9⟩ | ⟨h9,_⟩
    ·exact h9
    ·exact absurd dS h9
   subst dS;refine aA (aj [1,5,10,11] rfl ?_);refine ag (ab 3 rfl (aF rfl rfl (aaW (N:=400000000) ((hc.le (dz N) NM).T7 hN) (hx.xL fun q hq=>Nat.le_trans (hxz q hq) (by decide)) (by omega) (by omega) (Nat.le_refl _)) ?_));rintro _ H4 ⟨dV,t4,rfl,cI⟩;rw[fo]at cI;refine vr 2 ?_;obtain⟨ti,ak,al⟩:=a6;refine aI (.inl ⟨rfl,rfl⟩) rfl rfl rfl ak al rfl rfl rfl (ab 1 rfl (ae [4,5,6] ?_));obtain⟨NN,yj,yk⟩:=a6;refine aE ⟨.inr rfl,_,.tmp rfl (.agg rfl Tryz.underlying31 yj yk (.tmp rfl (.nil))),?_⟩;exact⟨NM.trans dV,1,t4,xv,_,rfl,hS,cI,JR hf hS,fun _=>⟨x,hx.le dL dV,cP,fun q hq=>Nat.le_trans (hxz q hq) (by omega),rfl⟩⟩
 ·
  obtain⟨H3,iD,dy⟩:=ajN G.gs Ua eu.ne;refine SA iD ?_;clear hQ NM;have l5:=eu.kept dy;have gN:=dC.trans dy.le;have fK:=fK.le dy.le;rw[←hW]at l5;refine aA (aj [1,2,5,7,8,9] rfl ?_);refine ag (ab 1 rfl (aH rfl rfl ⟨by omega,by omega⟩ (ab 1 rfl (ae [1,2,5,7,8,9,13] ?_))));refine kI (fun(a:Nat)=>put (put (put (put (put (put (put (emp) 1 (.val (cv))) 2 (.box [fv,fL])) 5 (.box [.bool false,.slice none 0 0,.slice none 0 0])) 7 (.box [.slice G.Ar p.lp.m G.cr,.slice Ab p.lp.m cb])) 8 (.val (.int .i64 (p.u:Int)))) 9 (.box [.bool t9.f,.slice t9.A1 t9.m1 t9.c1,.slice t9.A2 t9.m2 t9.c2])) 13 (.val (.int .i64 (a:Int)))) (fun(a:Nat) H'=>H'=H3∧W=a) ?_ ?_
  ·
   refine ag (ab 4 rfl (ae [1,2,5,7,8,9,13,52] ?_));refine aD rfl (fun hb=> ?_) (fun hb=> ?_)
   ·
    have wA:0<p.lp.m:=by simp at hb;omega
    obtain⟨p0,AJ⟩:=l5.get wA;refine aC rfl (ab 2 rfl (aS ah rfl rfl rfl rfl rfl (l5.hd) (by show (jc G.rg _)[0]? = _;exact kE (rg:=G.rg) AJ) (by omega) (by omega) fun _=> ?_));refine ab 2 rfl (az ?_);exact⟨W,au,rfl,rfl⟩
   have wA:p.lp.m=0:=by simp at hb;omega
   have e9:p.w=p.u:=by show aY _ _ _ p.lp.m=_;rw[wA];rfl
   refine aA ?_;exact⟨W,au,rfl,rfl⟩
  rintro a H4 ⟨e4,rfl⟩;rw[e4];clear e4 H4;refine ag (ab 1 rfl (gJ Tryz.underlying26 bZ rfl rfl rfl (by omega) (by omega) (by omega) (by omega) ?_));intro z js;rw[Int.toNat_natCast];have CU:=l5.gu.start (C:=lW W (fun _=>0) 0) (xs:=cD [.bool false,.slice none 0 0,.slice none 0 0] (W*3)) js NG;refine ab 1 rfl (ae [1,2,5,7,8,9,13,14] ?_);refine aq (ag (ab 3 rfl (ae [1,2,5,7,8,9,13,14,61,62] ?_)));refine aG (ij (fun(k:Nat)(f:Nat→Rat)=>W-k) (fun(k:Nat)(f:Nat→Rat)=>put (put (put (put (put (put (put (put (put (put (emp) 1 (.val (cv))) 2 (.box [fv,fL])) 5 (.box [.bool false,.slice none 0 0,.slice none 0 0])) 7 (.box [.slice G.Ar p.lp.m G.cr,.slice Ab p.lp.m cb])) 8 (.val (.int .i64 (p.u:Int)))) 9 (.box [.bool t9.f,.slice t9.A1 t9.m1 t9.c1,.slice t9.A2 t9.m2 t9.c2])) 13 (.val (.int .i64 (W:Int)))) 14 (.val (.slice (some ⟨z,0,none⟩) W W))) 61 (.val (.int .i64 (W:Int)))) 62 (.val (.int .i64 (k:Int)))) (fun(k:Nat)(f:Nat→Rat) H'=>SZ (lW W f k) (rem H3 G.gs) H' G p.lp.m W p.lp.m (dP p) p.unit (.slice none 0 0) [] z∧(∀j,j<k→f j=rA p (dP p) j)∧k≤W) 0 (fun _=>0) (⟨CU,fun j hj=>absurd hj (Nat.not_lt_zero _),Nat.zero_le _⟩) au ?_);rintro k f H5 ⟨hS,NA,hk⟩;obtain⟨xs,hx,hC⟩:=hS.row;have cP:=JN hC hk;refine ag (vr 1 ?_)
  refine ae [1,2,5,7,8,9,13,14,61,62,63] ?_;refine aq (aD rfl (fun hb=> ?_) (fun hb=> ?_))
  ·
   have fq:k<W:=by simpa using hb
   have vg:=hS.set (.refl _ _) (ND (f:=bY f k 0) (akQ hC (fun j hj=>pL (by omega)) hk) fq (by rw[rp];exact(show bX _ [_,_,_] _ from fK.le hS.le)));refine aA (aj [1,2,5,7,8,9,13,14,61,62] rfl ?_);refine aq (aG (ag (ab 2 rfl (ae [1,2,5,7,8,9,13,14,15,61,62] ?_))));refine ag (vr 3 ?_);obtain⟨ti,ak,al⟩:=a6;refine cV (.inl rfl) ah rfl rfl rfl (by omega) (by omega) (hx) rfl (by show 0+W*3≤xs.length;omega) ak al (fun _=>rfl) rfl rfl rfl fun _=> ?_;refine ae [1,2,5,7,8,9,13,14,15,61,62] ?_;rw[pP,Int.toNat_natCast];refine ag (ab 4 rfl (ae [1,2,5,7,8,9,13,14,15,61,62,71,72] ?_));refine aG (ij (fun(i:Nat)(f2:Nat→Rat)=>p.lp.m-i) (fun(i:Nat)(f2:Nat→Rat)=>put (put (put (put (put (put (put (put (put (put (put (put (put (emp) 1 (.val (cv))) 2 (.box [fv,fL])) 5 (.box [.bool false,.slice none 0 0,.slice none 0 0])) 7 (.box [.slice G.Ar p.lp.m G.cr,.slice Ab p.lp.m cb])) 8 (.val (.int .i64 (p.u:Int)))) 9 (.box [.bool t9.f,.slice t9.A1 t9.m1 t9.c1,.slice t9.A2 t9.m2 t9.c2])) 13 (.val (.int .i64 (W:Int)))) 14 (.val (.slice (some ⟨z,0,none⟩) W W))) 15 (.val (.int .i64 (k:Int)))) 61 (.val (.int .i64 (W:Int)))) 62 (.val (.int .i64 (k:Int)))) 71 (.val (.int .i64 (p.lp.m:Int)))) 72 (.val (.int .i64 (i:Int)))) (fun(i:Nat)(f2:Nat→Rat) H'=>SZ (lW W f2 (k+1)) (rem H3 G.gs) H' G p.lp.m W p.lp.m (dP p) p.unit (.slice none 0 0) [] z∧(∀j,j<k→f2 j=rA p (dP p) j)∧f2 k=rC p (dP p) k i∧i≤p.lp.m) 0 (bY f k 0) (⟨vg,fun j hj=>by rw[pL (by omega)];exact NA j hj,by rw[rp,aa0],Nat.zero_le _⟩) au ?_)
   rintro i f2 H6 ⟨hV,Ub,uB,hi⟩;obtain⟨ws,sX,nZ⟩:=hV.row;have p9:=JN nZ (show k+1≤W by omega);refine ag (ab 1 rfl (ae [1,2,5,7,8,9,13,14,15,61,62,71,72,73] ?_));refine aq (aD rfl (fun hb=> ?_) (fun hb=> ?_))
   ·
    have aU:i<p.lp.m:=by simpa using hb
    have yc:=fY (t:=z::(aB (.slice none 0 0)++G.top)) (by rw[←hW];exact hV.q) i aU;refine aA (aj [1,2,5,7,8,9,13,14,15,61,62,71,72] rfl ?_);refine aq (aG (ag (ab 2 rfl (ae [1,2,5,7,8,9,13,14,15,16,61,62,71,72] ?_))));refine kI (fun(b0:Bool)=>put (put (put (put (put (put (put (put (put (put (put (put (put (put (put (emp) 1 (.val (cv))) 2 (.box [fv,fL])) 5 (.box [.bool false,.slice none 0 0,.slice none 0 0])) 7 (.box [.slice G.Ar p.lp.m G.cr,.slice Ab p.lp.m cb])) 8 (.val (.int .i64 (p.u:Int)))) 9 (.box [.bool t9.f,.slice t9.A1 t9.m1 t9.c1,.slice t9.A2 t9.m2 t9.c2])) 13 (.val (.int .i64 (W:Int)))) 14 (.val (.slice (some ⟨z,0,none⟩) W W))) 15 (.val (.int .i64 (k:Int)))) 16 (.val (.int .i64 (i:Int)))) 61 (.val (.int .i64 (W:Int)))) 62 (.val (.int .i64 (k:Int)))) 71 (.val (.int .i64 (p.lp.m:Int)))) 72 (.val (.int .i64 (i:Int)))) 92 (.val (.bool b0))) (fun(b0:Bool) H'=>H'=H6∧(b0=true↔p.u≤p.unit i∧(k<p.u∨k=p.w))) ?_ ?_
    ·
     by_cases h1:p.u≤p.unit i
     ·
      skip
      by_cases h2:k<p.u
      ·
       skip
       refine aC rfl (ab 3 rfl (aS ah rfl rfl rfl rfl rfl (yc) (by rw[Int.toNat_natCast];exact gO aU) (by omega) (by omega) fun _=> ?_));refine ab 1 rfl (aJ true rfl rfl (rS (by omega)) (ab 3 rfl (aJ true rfl rfl (jS (by omega)) (ab 7 rfl (az ?_)))));exact⟨_,au,rfl,by simp[h1,h2]⟩
      skip
      by_cases h3:k=p.w
      ·
       skip
       refine aC rfl (ab 3 rfl (aS ah rfl rfl rfl rfl rfl (yc) (by rw[Int.toNat_natCast];exact gO aU) (by omega) (by omega) fun _=> ?_));refine ab 1 rfl (aJ true rfl rfl (rS (by omega)) (ab 3 rfl (aJ false rfl rfl (iC (by omega)) (ab 3 rfl (cY rfl rfl ⟨by omega,by omega⟩ (aJ true rfl rfl (jR (by omega)) (ab 2 rfl (az ?_))))))));exact⟨_,au,rfl,by simp[h1,h3]⟩
      skip
      refine aC rfl (ab 3 rfl (aS ah rfl rfl rfl rfl rfl (yc) (by rw[Int.toNat_natCast];exact gO aU) (by omega) (by omega) fun _=> ?_));refine ab 1 rfl (aJ true rfl rfl (rS (by omega)) (ab 3 rfl (aJ false rfl rfl (iC (by omega)) (ab 3 rfl (cY rfl rfl ⟨by omega,by omega⟩ (aJ false rfl rfl (lD (by omega)) (ab 2 rfl (az ?_))))))));exact⟨_,au,rfl,by simp[h1,h2,h3]⟩
     skip
     refine aC rfl (ab 3 rfl (aS ah rfl rfl rfl rfl rfl (yc) (by rw[Int.toNat_natCast];exact gO aU) (by omega) (by omega) fun _=> ?_));refine ab 1 rfl (aJ false rfl rfl (AV (by omega)) (ab 11 rfl (az ?_)));exact⟨_,au,rfl,by simp[h1]⟩
    rintro b0 H9 ⟨e9,iS⟩;rw[e9];clear e9 H9;refine aD rfl (fun hb=> ?_) (fun hb=> ?_)
    ·
     have TB:=iS.1 (by simpa using hb);obtain⟨pi,cU⟩:=l5.get aU;obtain⟨xi8,si8,TC,TD⟩:=hV.q.rB (G:=G.on _) cU;obtain⟨t5,w9,nG⟩:=akR nZ (Nat.lt_succ_self k) (show k+1≤W by omega);obtain⟨t6,zk,qV⟩:=mB TD fq
     have vD:aP (f2 k)≤2*L:=by rw[uB];exact akN bx hf (by omega)
     have vE:aP (dP p i k)≤L:=abr bx hf aU (by omega);refine ep .gH [0,1,2,3,4,5,6,7,8,9,10,11,12,13,14,15,16] follows (ia [0,0,0,0,12,28,0,64,0,448,960,0,4032,8128,16380,32767,65535] (by kernel_rfl)) ?_;refine ab 4 rfl (ck (vs:=[.bool t5.f,.slice t5.A1 t5.m1 t5.c1,.slice t5.A2 t5.m2 t5.c2]) ah rfl rfl rfl rfl (dW sX) rfl (by decide) (by rw[Int.toNat_natCast];exact nG) (by omega) (by omega) fun _=> ?_);refine ab 3 rfl (aS ah rfl rfl rfl rfl rfl (hV.q.hd) (by rw[Int.toNat_natCast];exact kE (rg:=G.rg) (W:=_) cU) (by omega) (by omega) fun _=> ?_);refine ab 1 rfl (ck (vs:=[.bool t6.f,.slice t6.A1 t6.m1 t6.c1,.slice t6.A2 t6.m2 t6.c2]) ah rfl rfl rfl rfl (dW TC) rfl (by decide) (by rw[Int.toNat_natCast];exact qV) (by omega) (by omega) fun _=> ?_);refine a8 rfl rfl (Fn.kq hV.q.ne (Et (N:=2*L) ((bK.raw w9).mono vD) ((bK.raw zk).mono (by omega)) (by omega))) (fun _ _ h=>by first | exact h.le | exact h.1) ?_;rintro v8 H8 gy;obtain⟨t8,rfl,ft⟩:=gy.val;have rD:=(gy.kept.same z SZ.m7).trans sX;obtain⟨ti,ak,al⟩:=a6;refine cV (.inr rfl) ah rfl rfl rfl (by omega) (by omega) (rD) rfl (by show 0+W*3≤ws.length;omega) ak al (fun _=>rfl) rfl rfl rfl fun _=> ?_;refine az ?_;rw[pP,Int.toNat_natCast];have ye:=hV.set gy.kept (akP (TV _ _ _ gy.kept.le nZ) fq (show bX _ [_,_,_] _ from ft))
     refine aj [1,2,5,7,8,9,13,14,15,61,62,71,72] rfl ?_;refine aC rfl (aH rfl rfl ⟨by omega,by omega⟩ (ab 1 rfl (az ?_)));exact⟨i+1,bY f2 k (f2 k-dP p i k),by omega,au,ye,fun j hj=>by rw[pL (by omega)];exact Ub j hj,by rw[rp,uB,aa1 TB],by omega⟩
    have TE:¬(p.u≤p.unit i∧(k<p.u∨k=p.w)):=fun h9=>by have:=iS.2 h9;simp[this]at hb
    refine aA (aj [1,2,5,7,8,9,13,14,15,61,62,71,72] rfl ?_);refine aC rfl (aH rfl rfl ⟨by omega,by omega⟩ (ab 1 rfl (az ?_)));exact⟨i+1,f2,by omega,au,hV,Ub,by rw[uB,aa2 TE],by omega⟩
   have aU:p.lp.m≤i:=by simpa using hb
   obtain rfl:i=p.lp.m:=by omega
   refine aW (aj [1,2,5,7,8,9,13,14,61,62] rfl ?_);refine aC rfl (aH rfl rfl ⟨by omega,by omega⟩ (ab 1 rfl (az ?_)));rw[aa3]at uB
   exact⟨k+1,f2,by omega,au,hV,fun j hj=>by
    by_cases ej:j=k
    ·subst ej;exact uB
    ·exact Ub j (by omega),by omega⟩
  have fq:W≤k:=by simpa using hb
  have ek:k=W:=by omega
  rw[ek]at hS NA;have CV:=hS.to (C':=ly W f) fun _ h=>NF h;refine aW (aj [1,2,5,7,8,9,13,14] rfl ?_);refine ag (ab 3 rfl (cR Tryz.underlying40 rP rfl rfl rfl rfl rfl rfl rfl ?_));intro gb bo;have hS7:=CV.fresh Ae (e:=whole [.slice (some ⟨z,0,none⟩) W W] 26) bo;refine dK Tryz.underlying40 rP rfl rfl hS7.q.rows (dE _ _ _ _ _ _) rfl (B9 _ _ _) (by omega) (by omega) ?_;intro v8 H8 jJ;obtain⟨A9,c9,rfl⟩:=jJ.own.form;have ru:=hS7.more (Nw jJ);obtain⟨tR,iJ⟩:=ru.drop;obtain⟨M9,yf⟩:∃M9,M9=(fun i=>if i=p.lp.m then f else dP p i):=⟨_,rfl⟩;rw[←yf]at tR
  have hT9:mA p (x6 M9 p.unit p.lp.m p.w):=by
   refine aaH bx (fun i hi j hj=>by rw[yf];show (if i=p.lp.m then f else dP p i) j=_;rw[if_neg (by omega)]) (fun j hj=> ?_)
   have e7:rA p M9 j=rA p (dP p) j:=by
    unfold rA
    split
    ·
     refine congrArg (fun x:Rat=> -x) (eS fun i hi=> ?_);rw[yf]
     show (if _ then(if i=p.lp.m then f else dP p i) j else 0)=_
     rw[if_neg (show ¬i=p.lp.m by omega)]
    ·rfl
   rw[e7,←NA j (by omega),yf]
   show (if p.lp.m=p.lp.m then f else _) j=_
   rw[if_pos rfl]
  obtain⟨G9,rfl,rfl,Jv,tR,iJ⟩:∃G9:GG,G9.Ar=A9∧G9.cr=c9∧G9.bv = .slice Ab p.lp.m cb∧cA iQ H8 G9 (p.lp.m+1) (p.w+1) p.lp.m M9 p.unit∧Heap.le (rem H3 G.gs) (rem H8 G9.gs):=⟨G.more G.top z W A9 c9 p.lp.m,rfl,rfl,dr,by rw[←hW];exact tR,iJ⟩;have TF:∀i,i<p.lp.m→p.unit i<p.w+1:=fun i hi=>Nat.lt_succ_of_lt (ow p hi);refine vr 1 ?_;obtain⟨ti,ak,al⟩:=Gf;refine aI (.inr rfl) rfl rfl rfl ak al rfl rfl rfl (ae [1,2,5,7,8,9,13] ?_);refine ag (vr 2 ?_);have hI:=aaU (u:=p.u) tR (by omega) (by omega) (by omega) (fun T r s=>mA.step) hT9 Np hT9.acc TF (fun T hT=>hT.sz hf) (by omega);rw[Jv]at hI;refine aF rfl rfl hI ?_;rintro _ xC ⟨Fh,Nx,TH,T,rfl,tS,EM,hT,jd,TI,qd,pO⟩;have z7:=iJ.trans EM
  have JF:∀j,j<p.u→0≤T.c j:=fun j hj=>by
   cases TH with
   | true=>rw[←jd.ec j (by omega)];exact qd rfl j hj
   | false=>
    obtain⟨s,k1,k2,k3⟩:=pO rfl;exact(hT.aaF k1 (by rw[←jd.ec s (by omega)];exact k2) fun i hi=>by rw[jd.em]at hi;rw[←jd.eA i hi s (by omega)];exact k3 i hi).elim
  obtain⟨pm,sV⟩:=tS.get (Nat.lt_succ_self p.lp.m);obtain⟨xm,sm,CG,CH⟩:=tS.rB sV;obtain⟨t10,IT,ME⟩:=mB CH (show p.w<p.w+1 by omega)
  have anG:aP (Fh p.lp.m p.w)≤L:=by rw[jd.ec _ (Nat.lt_succ_self _)];exact(hT.sz hf _ (Nat.lt_succ_self _)).1
  refine ae [1,2,5,7,8,9,13] ?_;refine aq (ag (ab 5 rfl (cY rfl rfl ⟨by omega,by omega⟩ (aS ah rfl rfl rfl rfl rfl (tS.hd) (by rw[show (((p.lp.m+1:Nat):Int)-1).toNat=p.lp.m by omega];exact kE (rg:=G9.rg) (W:=_) sV) (by omega) (by omega) fun _=> ?_))));refine ab 1 rfl (cY rfl rfl ⟨by omega,by omega⟩ (ck (vs:=[.bool t10.f,.slice t10.A1 t10.m1 t10.c1,.slice t10.A2 t10.m2 t10.c2]) ah rfl rfl rfl rfl (dW CG) rfl (by decide) (by rw[show ((W:Int)-1).toNat=p.w by omega];exact ME) (by omega) (by omega) fun _=> ?_));refine aF rfl rfl (Fn.mg tS.ne (xE (bK.raw IT) (by omega))) ?_;rintro v11 kz ⟨Co,R2,rfl⟩;have Eu:=tS.kept Co;have z7:=z7.trans Co.le;refine ab 1 rfl (ae [1,2,5,7,8,9,13,133] ?_);refine aD rfl (fun hb=> ?_) (fun hb=> ?_)
  ·
   have JG:p.lp.wX:=hT.inf bx JF (by rw[←jd.ec _ (Nat.lt_succ_self _)];exact fun h9=>by rw[h9]at hb;simp[ik]at hb);have hS:vV p c 2 0:= .inr (.inl ⟨rfl,JG,rfl⟩);have hlE:=z7.trans (bt _ _);refine bP .bJ [0,1,2,3] follows (by kernel_rfl) ?_;refine vr 2 ?_;obtain⟨ti,ak,al⟩:=a6;refine aI (.inl ⟨rfl,rfl⟩) rfl rfl rfl ak al rfl rfl rfl (ab 1 rfl (ae [4,5,6] ?_));obtain⟨NN,yj,yk⟩:=a6;refine aE ⟨.inr rfl,_,.tmp rfl (.agg rfl Tryz.underlying31 yj yk (.tmp rfl (.nil))),?_⟩;exact⟨gN.trans hlE,2,t9,.slice none 0 0,0,rfl,hS,fK.le hlE,JR hf hS,fun h9=>absurd h9 (by decide)⟩
  have h0:Fh p.lp.m p.w=0:=tO (by simpa using hb);have TJ:je p 0 T:=hT.clean JF (by rw[←jd.ec _ (Nat.lt_succ_self _)];exact h0);obtain⟨dN,kn,mW,nI,_,_,anH⟩:=Eu.less;have s0:=z7.trans nI;refine aA (aj [1,2,5,7,8,9,13] rfl ?_);refine ag (ab 5 rfl (cY rfl rfl ⟨by omega,by omega⟩ ?_));rw[show ((p.lp.m+1:Nat):Int)-1=((p.lp.m:Nat):Int) by omega];refine tt ah rfl rfl (.inl ⟨rfl,rfl⟩) (.inr ⟨_,_,rfl,rfl⟩) (by omega) (by omega) ?_;rw[AY,Nat.sub_zero,Nat.sub_zero];refine vr 1 ?_;obtain⟨ti,ak,al⟩:=Gf;refine aI (.inr rfl) rfl rfl rfl ak al rfl rfl rfl (ae [1,2,5,7,8,9,13] ?_);refine SA kn ?_;obtain⟨iw,eA,eC,NO,mW,s0⟩:∃iw:GG,iw.Ar=G9.Ar∧iw.cr=G9.cr∧iw.bv = .slice Ab p.lp.m cb∧cA iQ dN iw p.lp.m (p.w+1) p.lp.m Fh Nx∧Heap.le (rem H3 G.gs) (rem dN iw.gs):=⟨G9.less p.lp.m,rfl,rfl,Jv,mW,s0⟩;rw[←eA,←eC];clear kn CG CH iJ EM;obtain⟨Ny,Nz,sy,BQ⟩:=mW.sZ;rw[NO]at sy
  cases sy
  refine aq (ag (ab 4 rfl (ae [1,2,5,7,8,9,13,145,146] ?_)));refine aG (fG (fun(i:Nat)(M1:Nat→Nat→Rat)(B1:Nat→Nat)=>p.lp.m-i) (fun(i:Nat)(M1:Nat→Nat→Rat)(B1:Nat→Nat)=>put (put (put (put (put (put (put (put (put (emp) 1 (.val (cv))) 2 (.box [fv,fL])) 5 (.box [.bool false,.slice none 0 0,.slice none 0 0])) 7 (.box [.slice iw.Ar p.lp.m iw.cr,.slice Ab p.lp.m cb])) 8 (.val (.int .i64 (p.u:Int)))) 9 (.box [.bool t9.f,.slice t9.A1 t9.m1 t9.c1,.slice t9.A2 t9.m2 t9.c2])) 13 (.val (.int .i64 (W:Int)))) 145 (.val (.int .i64 (p.lp.m:Int)))) 146 (.val (.int .i64 (i:Int)))) (fun(i:Nat)(M1:Nat→Nat→Rat)(B1:Nat→Nat) H'=>cA iQ H' iw p.lp.m (p.w+1) p.lp.m M1 B1∧Heap.le (rem H3 G.gs) (rem H' iw.gs)∧(∀q,q<p.lp.m→B1 q<p.w+1)∧(∃T,je p i T∧ib M1 B1 T p.lp.m (p.w+1))∧i≤p.lp.m) 0 Fh Nx (⟨mW,s0,TI,⟨T,TJ,jd⟩,Nat.zero_le _⟩) au ?_);rintro i M1 B1 mo ⟨vN,qj,Aa,CR,hi⟩;refine ag (ab 1 rfl (ae [1,2,5,7,8,9,13,145,146,147] ?_));refine aq (aD rfl (fun hb=> ?_) (fun hb=> ?_))
  ·
   have aU:i<p.lp.m:=by simpa using hb
   obtain⟨pi,cU⟩:=vN.get aU
   have TM:(∃T,je p i T∧ib M1 B1 T p.lp.m (p.w+1)∧p.u≤B1 i∧∀j,j<0→M1 i j=0)∨(B1 i<p.u∧∃T,je p (i+1) T∧ib M1 B1 T p.lp.m (p.w+1)):=by
    obtain⟨T,k1,k2⟩:=CR
    by_cases hu:B1 i<p.u
    ·exact .inr ⟨hu,T,k1.skip (by rw[k2.em];exact aU) (.inl (by rw[←k2.eB i aU];exact hu)),k2⟩
    ·exact .inl ⟨T,k1,k2,by omega,fun j hj=>absurd hj (Nat.not_lt_zero _)⟩
   refine aA (aj [1,2,5,7,8,9,13,145,146] rfl ?_);refine aq (aG (ag (ab 2 rfl (ae [1,2,5,7,8,9,13,17,145,146] ?_))));refine ag (ab 1 rfl (ae [1,2,5,7,8,9,13,17,18,145,146] ?_));refine aG (fG (fun(k:Nat)(M2:Nat→Nat→Rat)(B2:Nat→Nat)=>p.u-k) (fun(k:Nat)(M2:Nat→Nat→Rat)(B2:Nat→Nat)=>put (put (put (put (put (put (put (put (put (put (put (emp) 1 (.val (cv))) 2 (.box [fv,fL])) 5 (.box [.bool false,.slice none 0 0,.slice none 0 0])) 7 (.box [.slice iw.Ar p.lp.m iw.cr,.slice Ab p.lp.m cb])) 8 (.val (.int .i64 (p.u:Int)))) 9 (.box [.bool t9.f,.slice t9.A1 t9.m1 t9.c1,.slice t9.A2 t9.m2 t9.c2])) 13 (.val (.int .i64 (W:Int)))) 17 (.val (.int .i64 (i:Int)))) 18 (.val (.int .i64 (k:Int)))) 145 (.val (.int .i64 (p.lp.m:Int)))) 146 (.val (.int .i64 (i:Int)))) (fun(k:Nat)(M2:Nat→Nat→Rat)(B2:Nat→Nat) H'=>cA iQ H' iw p.lp.m (p.w+1) p.lp.m M2 B2∧Heap.le (rem H3 G.gs) (rem H' iw.gs)∧(∀q,q<p.lp.m→B2 q<p.w+1)∧((∃T,je p i T∧ib M2 B2 T p.lp.m (p.w+1)∧p.u≤B2 i∧∀j,j<k→M2 i j=0)∨(B2 i<p.u∧∃T,je p (i+1) T∧ib M2 B2 T p.lp.m (p.w+1)))∧k≤p.u) 0 M1 B1 (⟨vN,qj,Aa,TM,Nat.zero_le _⟩) au ?_);rintro k M2 B2 qu ⟨pG,zW,NP,Uc,LF⟩;have abt:=BQ (t:=iw.top) pG i aU;refine aq ?_
   by_cases CI:k<p.u
   ·
    skip
    by_cases h2u:p.u≤B2 i
    ·
     obtain⟨anI,anJ,Nr,akV⟩:=pG.rB cU;obtain⟨t14,xT,Jg⟩:=mB akV (show k<p.w+1 by omega)
     obtain⟨T2,k1,k2,k3,k4⟩:∃T,je p i T∧ib M2 B2 T p.lp.m (p.w+1)∧p.u≤B2 i∧∀j,j<k→M2 i j=0:=by
      rcases Uc with h9 | ⟨h9,_⟩
      ·exact h9
      ·omega
     have x8:∀q,q<p.lp.m→∀j,j<p.w+1→aP (M2 q j)≤L:=fun q hq j hj=>by rw[k2.eA q hq j hj];exact k1.sz hf j hj q hq
     have anK:=x8 i aU k (by omega);refine ag (ab 2 rfl (aJ true rfl rfl (jS (by omega)) (ab 4 rfl (aS ah rfl rfl rfl rfl rfl (abt) (by rw[Int.toNat_natCast];exact gO aU) (by omega) (by omega) fun _=> ?_))));refine ab 1 rfl (aJ true rfl rfl (rS (by omega)) (ab 1 rfl (ae [1,2,5,7,8,9,13,17,18,145,146,160] ?_)));refine dJ rfl (aA (aj [1,2,5,7,8,9,13,17,18,145,146] rfl ?_));refine aq (aG (ag (ab 3 rfl (aS ah rfl rfl rfl rfl rfl (pG.hd) (by rw[Int.toNat_natCast];exact kE (rg:=iw.rg) (W:=_) cU) (by omega) (by omega) fun _=> ?_))));refine ab 1 rfl (ck (vs:=[.bool t14.f,.slice t14.A1 t14.m1 t14.c1,.slice t14.A2 t14.m2 t14.c2]) ah rfl rfl rfl rfl (dW Nr) rfl (by decide) (by rw[Int.toNat_natCast];exact Jg) (by omega) (by omega) fun _=> ?_);refine aF rfl rfl (Fn.mg pG.ne (xE (bK.raw xT) (by omega))) ?_;rintro SR mX ⟨Ud,anL,rfl⟩;have zK:=pG.kept Ud;refine ab 1 rfl (ae [1,2,5,7,8,9,13,17,18,145,146,172] ?_);refine aD rfl (fun hb=> ?_) (fun hb=> ?_)
     ·
      have a7:M2 i k≠0:=fun h9=>by rw[h9]at hb;simp[ik]at hb
      have hP2:=k1.pivot (by rw[k2.em];exact aU) (by rw[←k2.eB i aU];exact k3) CI (by rw[←k2.eA i aU k (by omega)];exact a7)
      have hzP:∀q,q<p.lp.m→∀j,j<p.w+1→aP (mz M2 i k q j)≤L:=fun q hq j hj=>by
       have h9:=k2.pivot (M':=mz M2 i k) aU (show k<p.w+1 by omega) fun _ _ _ _=>rfl;rw[h9.eA q hq j hj];exact hP2.sz hf j hj q hq
      refine aC rfl (vr 3 ?_);have hP:=aaM zK aU aU (show k<p.w+1 by omega) a7 x8 hzP (by omega) (by omega) (by omega);rw[NO]at hP;refine aF rfl rfl hP ?_;rintro v16 Fi ⟨M3,akW,akX,akY⟩;refine az (aj [1,2,5,7,8,9,13,17,18,145,146] rfl ?_);refine aC rfl (ab 1 rfl (aH rfl rfl ⟨by omega,by omega⟩ (ab 1 rfl (az ?_))));obtain⟨M5,JH⟩:∃M5:Nat→Nat→Rat,M5=fun q=>if q=p.lp.m then mz M2 i k p.lp.m else M3 q:=⟨_,rfl⟩
      have JI:∀q,q<p.lp.m→M5 q=M3 q:=fun q hq=>by rw[JH];show (if q=p.lp.m then _ else M3 q)=_;rw[if_neg (by omega)]
      exact⟨k+1,M5,_,by omega,au,akW.CP fun q hq j _=>by rw[JI q hq],(zW.trans Ud.le).trans akY,fun q hq=>by
       show (if q=i then k else B2 q)<_
       split
       ·omega
       ·
        exact NP q hq,.inr ⟨by rw[if_pos rfl];exact CI,T2.pivot i k,hP2,k2.pivot aU (by omega) fun q hq j hj=>by
        by_cases e:q=p.lp.m
        ·
         subst e;rw[JH]
         show (if p.lp.m=p.lp.m then _ else M3 _) j=_
         rw[if_pos rfl]
        ·rw[JI q (by omega)];exact akX q (by omega) j hj⟩,by omega⟩
     skip
     refine aA (aj [1,2,5,7,8,9,13,17,18,145,146] rfl ?_);refine aC rfl (ab 1 rfl (aH rfl rfl ⟨by omega,by omega⟩ (ab 1 rfl (az ?_))))
     exact⟨k+1,M2,B2,by omega,au,zK,zW.trans Ud.le,NP,.inl ⟨T2,k1,k2,k3,fun j hj=>by
      by_cases e:j=k
      ·subst e;exact tO (by simpa using hb)
      ·exact k4 j (by omega)⟩,by omega⟩
    have hD:∃T,je p (i+1) T∧ib M2 B2 T p.lp.m (p.w+1):=by
     rcases Uc with ⟨T,_,_,k3,_⟩ | h8
     ·omega
     ·exact h8.2
    refine ag (ab 2 rfl (aJ true rfl rfl (jS (by omega)) (ab 4 rfl (aS ah rfl rfl rfl rfl rfl (abt) (by rw[Int.toNat_natCast];exact gO aU) (by omega) (by omega) fun _=> ?_))));refine ab 1 rfl (aJ false rfl rfl (AV (by omega)) (ab 1 rfl (ae [1,2,5,7,8,9,13,17,18,145,146,160] ?_)));refine dR rfl (aW (aj [1,2,5,7,8,9,13,145,146] rfl ?_));refine aC rfl (aH rfl rfl ⟨by omega,by omega⟩ (ab 1 rfl (az ?_)));exact⟨i+1,M2,B2,by omega,au,pG,zW,NP,hD,by omega⟩
   have hD:∃T,je p (i+1) T∧ib M2 B2 T p.lp.m (p.w+1):=by
    rcases Uc with ⟨T,k1,k2,k3,k4⟩ | h8
    ·exact⟨T,k1.skip (by rw[k2.em];exact aU) (.inr fun j hj=>by rw[←k2.eA i aU j (by omega)];exact k4 j (by omega)),k2⟩
    ·exact h8.2
   refine ag (ab 2 rfl (aJ false rfl rfl (iC (by omega)) (ab 9 rfl (ae [1,2,5,7,8,9,13,17,18,145,146,160] ?_))));refine dR rfl (aW (aj [1,2,5,7,8,9,13,145,146] rfl ?_));refine aC rfl (aH rfl rfl ⟨by omega,by omega⟩ (ab 1 rfl (az ?_)));exact⟨i+1,M2,B2,by omega,au,pG,zW,NP,hD,by omega⟩
  have aU:p.lp.m≤i:=by simpa using hb
  obtain rfl:i=p.lp.m:=by omega
  obtain⟨T3,Ue,Uf⟩:=CR;have yg:=gN.trans qj
  have NJ:=akK (N1:=2*L) vN (Nat.le_refl _) (hp.le yg) (hc.le (dz N) yg) fo (by omega) Aa (by omega) (by omega) (by omega) (by omega) (fun i hi k hk=>akO hf Ue Uf hi hk) (fun i hi k hk=>by
   rw[Uf.eA i hi k hk];have:=Ue.sz hf k hk i hi
   omega)
  rw[NO,←hW]at NJ;refine aW (aj [1,2,5,7,8,9,13] rfl ?_);refine bP .bJ [0,1,2,3,4,5,6,7,8,9,10] follows (by kernel_rfl) ?_;refine ab 6 rfl (a8 rfl rfl NJ (fun _ _ ⟨_,_,_,h⟩=>h) ?_);rintro _ mX ⟨z5,rfl,qw,anM⟩;refine cR Tryz.underlying40 rP rfl rfl rfl rfl rfl rfl rfl ?_;intro gb bo;have hZ6:=qw.fresh Ae (e:=whole [.slice (some ⟨z5,0,none⟩) W W] 26) bo;refine dK Tryz.underlying40 rP rfl rfl hZ6.q.rows (dE _ _ _ _ _ _) rfl (B9 _ _ _) (by omega) (by omega) ?_;intro v16 Fi Fj;obtain⟨TN,TO,rfl⟩:=Fj.own.form;have akZ:=hZ6.more (Nw Fj);obtain⟨NQ,vO⟩:=akZ.drop;have vO:=qj.trans vO;obtain⟨vW,CS⟩:∃vW,vW=(fun i=>if i=p.lp.m then lV M1 B1 (fg p (fn c) 1 p.lp.n) p.lp.m else M1 i):=⟨_,rfl⟩;rw[←CS]at NQ
  have abu:oC p c (x6 vW B1 p.lp.m p.w):=aaJ Ue Uf (fun i hi j hj=>by rw[CS];show (if i=p.lp.m then _ else M1 i) j=_;rw[if_neg (by omega)]) (fun j hj=>by
   rw[CS]
   show (if p.lp.m=p.lp.m then(_:Nat→Rat)else _) j=_
   rw[if_pos rfl])
  obtain⟨Fp,rfl,rfl,abv,NQ,vO⟩:∃Fp:GG,Fp.Ar=TN∧Fp.cr=TO∧Fp.bv = .slice Ab p.lp.m cb∧cA iQ Fi Fp (p.lp.m+1) (p.w+1) p.lp.m vW B1∧Heap.le (rem H3 G.gs) (rem Fi Fp.gs):=⟨iw.more iw.top z5 W TN TO p.lp.m,rfl,rfl,NO,by rw[←hW];exact NQ,vO⟩;refine vr 1 ?_;obtain⟨ti,ak,al⟩:=Gf;refine aI (.inr rfl) rfl rfl rfl ak al rfl rfl rfl (ae [1,2,5,7,8,9,13] ?_);refine ag (vr 2 ?_);have hI:=aaU (u:=p.u) NQ (by omega) (by omega) (by omega) (fun T r s=>oC.step) abu Np abu.acc Aa (fun T hT=>hT.sz hf) (by omega);rw[abv]at hI;refine aF rfl rfl hI ?_;rintro _ TP ⟨TQ,TR,JJ,T2,rfl,ak0,TS,CT,rE,NB,yh,JK⟩;have E7:=vO.trans TS
  have hV:=akL (N1:=L) ak0 (by omega) (hp.le (gN.trans E7)) (by omega) (by omega) NB (by omega) (by omega) (by omega) hL1 (fun i hi=>by
   rw[rE.eA i hi _ (by omega)];exact(CT.sz hf _ (by omega)).2 i hi)
  rw[abv,←hW,show W-1=p.w by omega]at hV
  have hvz:∀q,q∈aL (jV p (iR TQ TR p.w p.lp.m)) p.free.length→aP q≤2*L+17:=fun q hq=>by
   obtain⟨j,hj,rfl⟩:=Cn hq;have:=akJ (p:=p) (fun j=>abp (M:=TQ) (B:=TR) (n:=p.w) (N:=L) hL1 (fun i hi=>by rw[rE.eA i hi _ (by omega)];exact(CT.sz hf _ (by omega)).2 i hi) j p.lp.m (Nat.le_refl _)) j
   omega
  refine ab 1 rfl (ae [1,2,5,7,9,13,19] ?_);refine ag (ab 3 rfl (aF rfl rfl hV ?_));rintro xv R6 ⟨JL,JM⟩;have vY:=(E7.trans (bt _ _)).trans JL;refine ab 1 rfl (ae [1,5,9,19,20] ?_);refine aq (ag (ab 2 rfl (ae [1,5,9,20,196] ?_)));refine aD rfl (fun hb=> ?_) (fun hb=> ?_)
  ·
   have hb:JJ=false:=by simpa using hb
   obtain⟨s2,k1,k2,k3⟩:=JK hb
   have hS:vV p c 3 0:=CT.unb bx fo k1 (by rw[←rE.ec s2 (by omega)];exact k2) fun i hi=>by rw[rE.em]at hi;rw[←rE.eA i hi s2 (by omega)];exact k3 i hi
   refine bP .bJ [0,1,2,3,4] follows (by kernel_rfl) ?_;refine vr 3 ?_;obtain⟨ti,ak,al⟩:=a6;refine aI (.inl ⟨rfl,rfl⟩) rfl rfl rfl ak al rfl rfl rfl (ab 1 rfl (ae [4,5,6] ?_));obtain⟨NN,yj,yk⟩:=a6;refine aE ⟨.inr rfl,_,.tmp rfl (.agg rfl Tryz.underlying31 yj yk (.tmp rfl (.nil))),?_⟩;exact⟨gN.trans vY,3,t9,xv,0,rfl,hS,fK.le vY,JR hf hS,fun h9=>absurd h9 (by decide)⟩
  have hb:JJ=true:=by simpa using hb
  have TT:∀j,j<p.u→0≤T2.c j:=fun j hj=>by rw[←rE.ec j (by omega)];exact yh hb j hj
  have hS:=CT.opt bx fo TT rE;refine aA (aj [1,5,20] rfl ?_);refine ag (ab 2 rfl (aF rfl rfl (aaW (N:=400000000) ((hc.le (dz N) (gN.trans vY)).T7 hN) (JM.xL fun q hq=>Nat.le_trans (hvz q hq) (by omega)) (by rw[bh];omega) (by omega) (Nat.le_refl _)) ?_));rintro _ Mx ⟨abw,t20,rfl,tT⟩;rw[fo]at tT;refine vr 2 ?_;obtain⟨ti,ak,al⟩:=a6;refine aI (.inl ⟨rfl,rfl⟩) rfl rfl rfl ak al rfl rfl rfl (ab 1 rfl (ae [4,5,6] ?_));obtain⟨NN,yj,yk⟩:=a6;refine aE ⟨.inr rfl,_,.tmp rfl (.agg rfl Tryz.underlying31 yj yk (.tmp rfl (.nil))),?_⟩;exact⟨(gN.trans vY).trans abw,1,t20,xv,_,rfl,hS,tT,JR hf hS,fun _=>⟨_,JM.le dL abw,bh _ _,hvz,rfl⟩⟩
end Go.aw
