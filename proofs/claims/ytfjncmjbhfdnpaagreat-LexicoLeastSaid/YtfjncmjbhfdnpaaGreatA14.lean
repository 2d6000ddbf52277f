/- Part 14 of the proof: St, Sc, SDat4, Sv. -/
import Derived.Test.YtfjncmjbhfdnpaaGreatA13
set_option linter.unusedVariables false
namespace Go.au
open Go.Proofs Num Lp
theorem GU.hle{K H:Heap}{G:GG}{R W m:Nat}{M:Nat→Nat→Rat}{B:Nat→Nat}{u:Value}{l:List Nat}(h:GU K H G R W m M B u l):Heap.le K H:=h.le.trans (bE _ _)
theorem SZ.hle{C:Heap→List Value→Prop}{K H:Heap}{G:GG}{R W m:Nat}{M:Nat→Nat→Rat}{B:Nat→Nat}{u:Value}{l:List Nat}{z:Nat}(h:SZ C K H G R W m M B u l z):Heap.le K H:=h.le.trans (bE _ _)
theorem abd{rel s:Int}(hr:rel=1∨rel=2∨rel=3)(hs:s=1∨s = -1):(kB rel s=1∨kB rel s=2∨kB rel s=3)∧(kB rel s=2↔rel=2):=by
 unfold kB
 rcases hr with rfl | rfl | rfl <;> rcases hs with rfl | rfl <;> simp
theorem akH{f:Nat→Rat}{k:Nat}{a b:Rat}:bV (bV f k a) k b=bV f k b:=by
 funext j
 by_cases e:j=k
 ·subst e;rw[jE,jE]
 ·rw[eF e,eF e,eF e]
def TZ(p:Prg)(i:Nat):Nat→Rat:=bV (eZ p (p.lp.a i) (p.aJ i:Rat) p.lp.n) p.w (p.lp.b i*(p.aJ i:Rat))
def E7(p:Prg)(i:Nat):Nat→Rat:=if p.lp.rel i=2 then TZ p i else bV (TZ p i) (bA p.lp.rel p.c1 i) (if kB (p.lp.rel i) (p.aJ i)=1 then 1 else -1)
theorem abe{p:Prg}{i:Nat}:dL p i=if kB (p.lp.rel i) (p.aJ i)=1 then E7 p i else bV (E7 p i) (aX p.lp.rel p.aJ p.u i) 1:=rfl
theorem akI{H:Heap}{p:Prg}{pv:Value}{N:Nat}(a8:p.Ok)(hp:eH N H pv p)(hN:N≤400000000):
 Fn Tryz.prog 62 #[pv] H (fun v H'=>∃G,v = .tuple #[.agg #[.slice G.Ar p.lp.m G.cr,G.bv],.int .i64 (p.u:Int)]∧G.top = []∧ct iF H' G p.lp.m (p.w+1) p.lp.m (dL p) p.unit∧Heap.le H (rem H' G.gs)):=by
 obtain⟨fv,gB,rfl,eI,fk⟩:=id hp
 obtain⟨Af,cf,xf,rfl,jk,jl⟩:=eI.one
 obtain⟨Ar,cr,xr,rfl,jL,fy,iE⟩:=id fk
 have jf:=a8.iu
 have vD:=a8.rows
 have hpn:p.lp.n=p.free.length:=rfl
 have sL:p.lp.m=p.rows.length:=rfl
 have dg:=xS (p:=p)
 have hcu:=mc p
 have mL:=fj p
 have RT:p.w≤2*p.lp.n+2*p.lp.m:=HO p
 have Ak:p.c1=p.free.length+p.xf p.free.length:=by show aW _ _=_+(aW p.lp.free p.lp.n-p.lp.n);have:=zK (fr:=p.lp.free) p.lp.n;omega
 have mH:p.u=p.c1+p.sf p.rows.length:=by show bA _ _ _=_+(bA p.lp.rel p.c1 p.lp.m-p.c1);have:=(sx p.lp.rel p.c1 p.lp.m).2;omega
 have han:p.w=p.u+p.af p.rows.length:=by show aX _ _ _ _=_+(aX p.lp.rel p.aJ p.u p.lp.m-p.u);have:=(tQ p.lp.rel p.aJ p.u p.lp.m).2;omega
 obtain⟨W,hW⟩:∃W,W=p.w+1:=⟨_,rfl⟩
 rw[←hW];refine a7 (args:=[_]) Tryz.func62 rfl rfl Tryz.ntmps62 rfl rfl fun w0=> ?_;refine aj [0] rfl ?_;refine ag (bX rfl rfl (bt Kp rfl (ab 1 rfl (ae [1,2] ?_))));refine ag (aE rfl rfl ((pX (n:=0) (by decide) (by decide)).rc) ?_);rintro _ H1 ⟨cH,t4,rfl,cJ⟩;rw[show ((0:Int):Rat)=0 from rfl]at cJ;refine aE rfl rfl ((pX (n:=1) (by decide) (by decide)).rc) ?_;rintro _ H2 ⟨dG,t5,rfl,ep⟩;rw[show ((1:Int):Rat)=1 from rfl]at ep;have NI:=cH.trans dG
 have oP:aO (1:Rat)≤2:=by decide
 refine bt bY rfl (bt bY rfl ?_);obtain⟨ti,ak,al⟩:=aY;refine aH (.inl ⟨rfl,rfl⟩) rfl rfl rfl ak al rfl rfl rfl ?_;obtain⟨ti,ak,al⟩:=aY;refine aH (.inl ⟨rfl,rfl⟩) rfl rfl rfl ak al rfl rfl rfl (ae [1,2,4,5] ?_);refine ag (ab 3 rfl (ae [1,2,4,5,6,7,8] ?_));refine ao (ag (ab 4 rfl (ae [1,2,4,5,6,7,8,28,29] ?_)));refine aF (gG (fun(j:Nat)=>p.free.length-j) (fun(j:Nat)=>put (put (put (put (put (put (put (put (put (emp) 1 (.box [.slice Af p.free.length cf,.slice Ar p.rows.length cr])) 2 (.box [.slice none 0 0,.slice none 0 0])) 4 (.box [.bool t4.f,.slice t4.A1 t4.m1 t4.c1,.slice t4.A2 t4.m2 t4.c2])) 5 (.box [.bool t5.f,.slice t5.A1 t5.m1 t5.c1,.slice t5.A2 t5.m2 t5.c2])) 6 (.val (.int .i64 (p.xf j:Int)))) 7 (.val (.int .i64 0))) 8 (.val (.int .i64 0))) 28 (.val (.int .i64 (p.free.length:Int)))) 29 (.val (.int .i64 (j:Int)))) (fun(j:Nat) H'=>H'=H2∧j≤p.free.length∧p.xf j≤j) 0 (⟨rfl,Nat.zero_le _,Nat.le_refl _⟩) (by repeat (first | exact iL _ | refine du rfl ?_ | refine du (ja (by first | omega | (simp;done) | rfl)) ?_)) ?_);rintro j H2b ⟨e2,hj,Xy⟩;rw[e2];clear e2 H2b;refine ag (ab 1 rfl (ae [1,2,4,5,6,7,8,28,29,30] ?_));refine ao (aC rfl (fun hb=> ?_) (fun hb=> ?_))
 ·
  have fL:j<p.free.length:=by simpa using hb
  obtain⟨uf,pf,jr⟩:=jl j _ (List.getElem?_eq_getElem fL);have jr: [uf] = [Value.bool p.free[j]]:=jr
  cases jr
  have nK:p.lp.free j=p.free[j]:=Prg.Bk (List.getElem?_eq_getElem fL);have e8:=akz (p:=p) (j:=j);refine aA (aj [1,2,4,5,6,7,8,28,29] rfl ?_);refine ao (aF (ag (ab 2 rfl (ae [1,2,4,5,6,7,8,9,28,29] ?_))));refine ag (ab 3 rfl (aQ ah rfl rfl rfl rfl rfl (jk.le NI) (by rw[Int.toNat_natCast];exact pf) (by omega) (by omega) fun _=> ?_));refine ae [1,2,4,5,6,7,8,28,29,36] ?_;refine aC rfl (fun hb=> ?_) (fun hb=> ?_)
  ·
   have fB:p.lp.free j=true:=by rw[nK];simpa using hb
   rw[if_pos fB]at e8;refine aB rfl (ab 1 rfl (aG rfl rfl ⟨by omega,by omega⟩ (ab 1 rfl (aw (aj [1,2,4,5,6,7,8,28,29] rfl ?_)))));refine aB rfl (aG rfl rfl ⟨by omega,by omega⟩ (ab 1 rfl (aw ?_)));exact⟨j+1,by omega,ar,rfl,by omega,by omega⟩
  ·
   have fB:¬p.lp.free j=true:=by rw[nK];simpa using hb
   rw[if_neg fB]at e8;refine aA (aj [1,2,4,5,6,7,8,28,29] rfl ?_);refine aB rfl (aG rfl rfl ⟨by omega,by omega⟩ (ab 1 rfl (aw ?_)));exact⟨j+1,by omega,ar,rfl,by omega,by omega⟩
 ·
  have fL:p.free.length≤j:=by simpa using hb
  obtain rfl:j=p.free.length:=by omega
  refine aV (aj [1,2,4,5,6,7,8] rfl ?_);refine ag (ab 3 rfl (gF Tryz.underlying23 gY rfl rfl rfl (by omega) (by omega) (by omega) (by omega) ?_));intro gx pa;have sP:=IL (P:=fu (N+2)) (e:=78) (sz:=5) (zs:=[.slice none 0 0,.int .i64 0,.bool false,.slice none 0 0,.slice none 0 0]) (z:=0) (k:=(p.rows.length:Int)) (c:=p.rows.length) pa rfl (Int.toNat_natCast _) (by unfold maxLen;omega);rw[Int.toNat_natCast]at sP⊢;refine ab 1 rfl (ae [1,2,4,5,6,7,8,10] ?_);refine ao (ag (ab 4 rfl (ae [1,2,4,5,6,7,8,10,46,47] ?_)));refine aF (fZ (fun(i:Nat)(w:Value)(ws:List Value)=>p.rows.length-i) (fun(i:Nat)(w:Value)(ws:List Value)=>put (put (put (put (put (put (put (put (put (put (emp) 1 (.box [.slice Af p.free.length cf,.slice Ar p.rows.length cr])) 2 (.box [.slice none 0 0,.slice none 0 0])) 4 (.box [.bool t4.f,.slice t4.A1 t4.m1 t4.c1,.slice t4.A2 t4.m2 t4.c2])) 5 (.box [.bool t5.f,.slice t5.A1 t5.m1 t5.c1,.slice t5.A2 t5.m2 t5.c2])) 6 (.val (.int .i64 (p.xf p.free.length:Int)))) 7 (.val (.int .i64 (p.sf i:Int)))) 8 (.val (.int .i64 (p.af i:Int)))) 10 (.val (w))) 46 (.val (.int .i64 (p.rows.length:Int)))) 47 (.val (.int .i64 (i:Int)))) (fun(i:Nat)(w:Value)(ws:List Value) H'=>ea (fu (N+2)) 78 5 H2 H' w ((p.rows.take i).map fC) ws∧i≤p.rows.length∧p.sf i≤i∧p.af i≤i) 0 _ _ (⟨sP,Nat.zero_le _,by show bA _ _ 0-_≤_;unfold bA;omega,by show aX _ _ _ 0-_≤_;unfold aX;omega⟩) (by repeat (first | exact iL _ | refine du rfl ?_ | refine du (ja (by first | omega | (simp;done) | (show _=((bA _ _ 0-_:Nat):Int);unfold bA;omega) | (show _=((aX _ _ _ 0-_:Nat):Int);unfold aX;omega))) ?_)) ?_)
  rintro i w ws H3 ⟨hG,hi,hsi,LR⟩;obtain⟨A3,c3,rfl⟩:=hG.form
  have jq:((p.rows.take i).map fC).length=i:=by simp;omega
  refine ag (ab 1 rfl (ae [1,2,4,5,6,7,8,10,46,47,48] ?_));refine ao (aC rfl (fun hb=> ?_) (fun hb=> ?_))
  ·
   have aT:i<p.rows.length:=by simpa using hb
   obtain⟨r,hr⟩:∃r,p.rows[i]? = some r:=⟨_,List.getElem?_eq_getElem aT⟩;obtain⟨A0,c0,f,A1,m1,c1,A2,m2,c2,lX,fH,qc,me⟩:=aR.MF iE hr;have E8:=a8.row i r hr;have lF:=a8.valid i aT;have Jz:p.aJ i=1∨p.aJ i = -1:=sw _ _;have cU:=abc hr;have ho:=S5 lF Jz;obtain⟨eE,dX⟩:=abd lF Jz;rw[←cU]at ho eE dX;have e7:=akC (p:=p) (i:=i);have e8:=akD (p:=p) (i:=i);refine aA (aj [1,2,4,5,6,7,8,10,46,47] rfl ?_);refine ao (aF (ag (ab 2 rfl (ae [1,2,4,5,6,7,8,10,11,46,47] ?_))));refine ag (ab 3 rfl (ck (vs:=[.slice A0 r.1.length c0,.int .i64 r.2.1,.bool f,.slice A1 m1 c1,.slice A2 m2 c2]) ah rfl rfl rfl rfl (fy.le (NI.trans hG.le)) rfl (by decide) me (by omega) (by omega) fun _=>(aE rfl rfl (hG.call (aj7 (N:=N) (gm N _ _ _ _ (NI.trans hG.base) ⟨_,_,_,_,rfl,fH,qc⟩) hN (by rw[E8.1];omega) E8.2)) ?_)));rintro _ H6 iH;have fK:=hG.kV (gm (N+2)) iH fun _ _ h=>h.1;obtain⟨⟨_,A5,c5,f5,B1,k1,e1,B2,k2,e2,rfl,jO⟩,_⟩:=iH;refine bt gY rfl ?_;obtain⟨ti,ak,al⟩:=nM;refine aH (.inl ⟨rfl,rfl⟩) rfl rfl rfl ak al rfl rfl rfl (ae [1,2,4,5,6,7,8,10,12,46,47] ?_);refine ag (ab 2 rfl (cW Tryz.underlying23 gY rfl rfl rfl rfl rfl rfl rfl ?_))
   intro gd ju;have gn:=fK.ins (gm (N+2)) (whole (cG [.agg #[.slice A5 r.1.length c5,.int .i64 (fC r).2.1,.bool f5,.slice B1 k1 e1,.slice B2 k2 e2]]) 78) ju;refine dR Tryz.underlying23 gY rfl rfl gn.own (dD _ _ _ _ _ _) rfl (IM _ _ _ _ _ _ _ _ _ _ _) (by rw[jq];omega) (by rw[jq];omega) ?_;intro v9 H9 qR;have iI:=gn.append (gm (N+2)) (k:=[fC r]) (by simp) qR (iP (gm (N+2) _ _ _ _ (qB _ (Heap.bB _ ju)) jO) rfl);obtain⟨F9,f9,rfl⟩:=iI.form;refine ab 1 rfl (ae [1,2,4,5,6,7,8,10,12,46,47] ?_);refine ao (ag (ab 3 rfl (ae [1,2,4,5,6,7,8,10,12,46,47,62] ?_)));refine aC rfl (fun hb=> ?_) (fun hb=> ?_)
   ·
    have hb:¬(fC r).2.1=2:=by simpa using hb
    rw[if_neg (fun h=>hb (dX.2 h))]at e7;refine aB rfl (ab 1 rfl (aG rfl rfl ⟨by omega,by omega⟩ (ab 1 rfl (aw (aj [1,2,4,5,6,7,8,10,12,46,47] rfl ?_)))));refine ag (ab 3 rfl (ae [1,2,4,5,6,7,8,10,46,47,67] ?_));refine aC rfl (fun hb=> ?_) (fun hb=> ?_)
    ·
     have hb:¬(fC r).2.1=1:=by simpa using hb
     rw[if_neg (fun h=>hb (ho.1 h))]at e8;refine aB rfl (ab 1 rfl (aG rfl rfl ⟨by omega,by omega⟩ (ab 1 rfl (aw (aj [1,2,4,5,6,7,8,10,46,47] rfl ?_)))));refine aB rfl (aG rfl rfl ⟨by omega,by omega⟩ (ab 1 rfl (aw ?_)));exact⟨i+1,_,_,by omega,ar,by rw[IN hr];exact iI,by omega,by omega,by omega⟩
    have hb:(fC r).2.1=1:=by simpa using hb
    rw[if_pos (ho.2 hb)]at e8;refine aA (aj [1,2,4,5,6,7,8,10,46,47] rfl ?_);refine aB rfl (aG rfl rfl ⟨by omega,by omega⟩ (ab 1 rfl (aw ?_)));exact⟨i+1,_,_,by omega,ar,by rw[IN hr];exact iI,by omega,by omega,by omega⟩
   have hb:(fC r).2.1=2:=by simpa using hb
   rw[if_pos (dX.1 hb)]at e7;refine aA (aj [1,2,4,5,6,7,8,10,12,46,47] rfl ?_);refine ag (ab 3 rfl (ae [1,2,4,5,6,7,8,10,46,47,67] ?_));refine aC rfl (fun hb=> ?_) (fun hb=> ?_)
   ·
    have hb:¬(fC r).2.1=1:=by simpa using hb
    rw[if_neg (fun h=>hb (ho.1 h))]at e8;refine aB rfl (ab 1 rfl (aG rfl rfl ⟨by omega,by omega⟩ (ab 1 rfl (aw (aj [1,2,4,5,6,7,8,10,46,47] rfl ?_)))));refine aB rfl (aG rfl rfl ⟨by omega,by omega⟩ (ab 1 rfl (aw ?_)));exact⟨i+1,_,_,by omega,ar,by rw[IN hr];exact iI,by omega,by omega,by omega⟩
   have hb:(fC r).2.1=1:=by simpa using hb
   rw[if_pos (ho.2 hb)]at e8;refine aA (aj [1,2,4,5,6,7,8,10,46,47] rfl ?_);refine aB rfl (aG rfl rfl ⟨by omega,by omega⟩ (ab 1 rfl (aw ?_)));exact⟨i+1,_,_,by omega,ar,by rw[IN hr];exact iI,by omega,by omega,by omega⟩
  have aT:p.rows.length≤i:=by simpa using hb
  obtain rfl:i=p.rows.length:=by omega
  rw[jq];have zW:=hG.sl (gm (N+2));rw[List.take_length]at zW;obtain⟨A3',c3',x3,e3,u0,w9,gA⟩:=id zW
  cases e3
  have abf:=NI.trans hG.le;have hs0:bA p.lp.rel p.c1 0=p.c1:=rfl;have hu0:aX p.lp.rel p.aJ p.u 0=p.u:=rfl;have cJ:=(cJ.le dG).le hG.le;have ep:=ep.le hG.le;refine aV (aj [1,2,4,5,6,7,8,10] rfl ?_);refine ag (ab 4 rfl (aG rfl rfl ⟨by omega,by omega⟩ (ab 1 rfl (aG rfl rfl ⟨by omega,by omega⟩ (ab 1 rfl (ae [1,2,4,5,6,8,10,13] ?_))))));refine ag (bt Kp rfl (ae [1,2,4,5,6,8,10,13,14] ?_));refine ag (ab 4 rfl (aG rfl rfl ⟨by omega,by omega⟩ (ab 3 rfl (ae [1,2,4,5,8,10,13,14,15,16] ?_))));refine ao (ag (ab 3 rfl (ae [1,2,4,5,8,13,14,15,16,84,85,86] ?_)));refine aF (fZ (fun(i:Nat)(G:GG)(u:Value)=>p.rows.length-i) (fun(i:Nat)(G:GG)(u:Value)=>put (put (put (put (put (put (put (put (put (put (put (put (emp) 1 (.box [.slice Af p.free.length cf,.slice Ar p.rows.length cr])) 2 (.box [.slice none 0 0,.slice none 0 0])) 4 (.box [.bool t4.f,.slice t4.A1 t4.m1 t4.c1,.slice t4.A2 t4.m2 t4.c2])) 5 (.box [.bool t5.f,.slice t5.A1 t5.m1 t5.c1,.slice t5.A2 t5.m2 t5.c2])) 8 (.val (.int .i64 (p.af p.rows.length:Int)))) 13 (.val (.int .i64 (p.u:Int)))) 14 (.box [.slice G.Ar i G.cr,u])) 15 (.val (.int .i64 (bA p.lp.rel p.c1 i:Int)))) 16 (.val (.int .i64 (aX p.lp.rel p.aJ p.u i:Int)))) 84 (.val (.slice A3 p.rows.length c3))) 85 (.val (.int .i64 (p.rows.length:Int)))) 86 (.val (.int .i64 (i:Int)))) (fun(i:Nat)(G:GG)(u:Value) H'=>GU H3 H' G i W 0 (dL p) p.unit u ((List.range i).map p.unit)∧G.top = []∧G.bb = []∧i≤p.rows.length) 0 g0 (.slice none 0 0) (⟨aky,rfl,rfl,Nat.zero_le _⟩) (by repeat (first | exact iL _ | refine du rfl ?_ | refine du (ja (by first | omega | (simp;done) | rfl)) ?_)) ?_)
  rintro i G u H4 ⟨hU,T1,hGb,hi⟩
  have uT:((List.range i).map p.unit).length=i:=by simp
  refine ag (ab 1 rfl (ae [1,2,4,5,8,13,14,15,16,84,85,86,87] ?_));refine ao (aC rfl (fun hb=> ?_) (fun hb=> ?_))
  ·
   have aT:i<p.rows.length:=by simpa using hb
   obtain⟨r,hr⟩:∃r,p.rows[i]? = some r:=⟨_,List.getElem?_eq_getElem aT⟩
   have l4:(p.rows.length:Nat)=(p.rows.map fC).length:=by simp
   obtain⟨vs5,aj4,T4,abg⟩:=gA.get (show (p.rows.map fC)[i]? = some (fC r) by rw[List.getElem?_map,hr];rfl);obtain⟨A5,c5,L5,f5,B1,k1,e1,B2,k2,e2,rfl,rfl⟩:=fu.cells T4;have T6:cn H3 (.agg #[.bool f5,.slice B1 k1 e1,.slice B2 k2 e2]) (fC r).2.2 (N+2):=fu.bound T4;have akJ:aR (bN (N+2)) 3 H3 (.slice A5 (fC r).1.length c5) (fC r).1:=fu.ZW T4;obtain⟨A5',c5',x5,e5,mM,T7,nC⟩:=id akJ
   cases e5
   rw[akF]at abg;have E8:=a8.row i r hr;have lF:=a8.valid i aT;have Jz:p.aJ i=1∨p.aJ i = -1:=sw _ _;have cU:=abc hr;rw[akE hr]at T6;have ho:=S5 lF Jz;obtain⟨eE,dX⟩:=abd lF Jz;have r7:=(sx p.lp.rel p.c1 i);have hu9:=(tQ p.lp.rel p.aJ p.u i);have Hu:bA p.lp.rel p.c1 (i+1)=bA p.lp.rel p.c1 i+(if p.lp.rel i=2 then 0 else 1):=rfl;have abh:aX p.lp.rel p.aJ p.u (i+1)=aX p.lp.rel p.aJ p.u i+(if eY (p.lp.rel i) (p.aJ i)then 0 else 1):=rfl;refine aA (aj [1,2,4,5,8,13,14,15,16,84,85,86] rfl ?_);refine ao (aF (ag (ck (vs:=[.slice A5 r.1.length c5,.int .i64 (fC r).2.1,.bool f5,.slice B1 k1 e1,.slice B2 k2 e2]) ah rfl rfl rfl rfl (w9.le hU.hle) rfl (by decide) abg (by omega) (by omega) fun _=>(bt gY rfl ?_))));obtain⟨ti,ak,al⟩:=nM;refine aH (.inl ⟨rfl,rfl⟩) rfl rfl rfl ak al rfl rfl rfl (ae [1,2,4,5,8,13,14,15,16,18,84,85,86] ?_);refine ag (ab 2 rfl (aG rfl rfl ⟨by omega,by omega⟩ (aG rfl rfl ⟨by omega,by omega⟩ (gF Tryz.underlying26 bY rfl rfl rfl (by omega) (by omega) (by omega) (by omega) ?_))));intro z hz;rw[show ((p.u:Int)+(p.af p.rows.length:Int)+1).toNat=W by omega];have CN:=hU.start (C:=lL W (fun _=>0) 0) (xs:=cg [.bool false,.slice none 0 0,.slice none 0 0] (W*3)) hz NH
   refine ab 1 rfl (ae [1,2,4,5,8,13,14,15,16,18,19,84,85,86] ?_);refine ao (ag (ab 3 rfl (ae [1,2,4,5,8,13,14,15,16,18,19,84,85,86,96,97] ?_)));refine aF (gG (fun(k:Nat)=>W-k) (fun(k:Nat)=>put (put (put (put (put (put (put (put (put (put (put (put (put (put (put (put (emp) 1 (.box [.slice Af p.free.length cf,.slice Ar p.rows.length cr])) 2 (.box [.slice none 0 0,.slice none 0 0])) 4 (.box [.bool t4.f,.slice t4.A1 t4.m1 t4.c1,.slice t4.A2 t4.m2 t4.c2])) 5 (.box [.bool t5.f,.slice t5.A1 t5.m1 t5.c1,.slice t5.A2 t5.m2 t5.c2])) 8 (.val (.int .i64 (p.af p.rows.length:Int)))) 13 (.val (.int .i64 (p.u:Int)))) 14 (.box [.slice G.Ar i G.cr,u])) 15 (.val (.int .i64 (bA p.lp.rel p.c1 i:Int)))) 16 (.val (.int .i64 (aX p.lp.rel p.aJ p.u i:Int)))) 18 (.box [.slice A5 r.1.length c5,.int .i64 (fC r).2.1,.bool f5,.slice B1 k1 e1,.slice B2 k2 e2])) 19 (.val (.slice (some ⟨z,0,none⟩) W W))) 84 (.val (.slice A3 p.rows.length c3))) 85 (.val (.int .i64 (p.rows.length:Int)))) 86 (.val (.int .i64 (i:Int)))) 96 (.val (.int .i64 (W:Int)))) 97 (.val (.int .i64 (k:Int)))) (fun(k:Nat) H'=>SZ (lL W (fun _=>0) k) H3 H' G i W 0 (dL p) p.unit u ((List.range i).map p.unit) z∧k≤W) 0 (⟨CN,Nat.zero_le _⟩) ar ?_);rintro k H5 ⟨hS,hk⟩;obtain⟨xs,hx,hC⟩:=hS.row;have cP:=Jy hC hk;refine ag (vr 1 ?_)
   refine ae [1,2,4,5,8,13,14,15,16,18,19,84,85,86,96,97,98] ?_;refine ao (aC rfl (fun hb=> ?_) (fun hb=> ?_))
   ·
    have fm:k<W:=by simpa using hb
    refine aA (aj [1,2,4,5,8,13,14,15,16,18,19,84,85,86,96,97] rfl ?_);refine ao (aF (ag (ab 2 rfl (ae [1,2,4,5,8,13,14,15,16,18,19,20,84,85,86,96,97] ?_))));refine aB rfl (vr 3 ?_);obtain⟨ti,ak,al⟩:=aY;refine cQ (.inl rfl) ah rfl rfl rfl (by omega) (by omega) (hx) rfl (by show 0+W*3≤xs.length;omega) ak al (fun _=>rfl) rfl rfl rfl fun _=> ?_;refine aw ?_;rw[oj,Int.toNat_natCast];have kj:=hS.set (.refl _ _) (NF hC fm (show bZ _ [_,_,_] _ from cJ.le hS.le));refine aj [1,2,4,5,8,13,14,15,16,18,19,84,85,86,96,97] rfl ?_;refine aB rfl (aG rfl rfl ⟨by omega,by omega⟩ (ab 1 rfl (aw ?_)));exact⟨k+1,by omega,ar,kj,by omega⟩
   have fm:W≤k:=by simpa using hb
   obtain rfl:k=W:=by omega
   have CO:=hS.to (C':=kX k (eZ p (p.lp.a i) (p.aJ i:Rat) 0)) fun _ h=>NG h;refine aV (aj [1,2,4,5,8,13,14,15,16,18,19,84,85,86] rfl ?_);refine ag (ab 4 rfl (ae [1,2,4,5,8,13,14,15,16,18,19,21,84,85,86] ?_));refine ao (ag (ab 4 rfl (ae [1,2,4,5,8,13,14,15,16,18,19,21,84,85,86,110,111] ?_)));refine aF (gG (fun(j:Nat)=>p.free.length-j) (fun(j:Nat)=>put (put (put (put (put (put (put (put (put (put (put (put (put (put (put (put (put (emp) 1 (.box [.slice Af p.free.length cf,.slice Ar p.rows.length cr])) 2 (.box [.slice none 0 0,.slice none 0 0])) 4 (.box [.bool t4.f,.slice t4.A1 t4.m1 t4.c1,.slice t4.A2 t4.m2 t4.c2])) 5 (.box [.bool t5.f,.slice t5.A1 t5.m1 t5.c1,.slice t5.A2 t5.m2 t5.c2])) 8 (.val (.int .i64 (p.af p.rows.length:Int)))) 13 (.val (.int .i64 (p.u:Int)))) 14 (.box [.slice G.Ar i G.cr,u])) 15 (.val (.int .i64 (bA p.lp.rel p.c1 i:Int)))) 16 (.val (.int .i64 (aX p.lp.rel p.aJ p.u i:Int)))) 18 (.box [.slice A5 r.1.length c5,.int .i64 (fC r).2.1,.bool f5,.slice B1 k1 e1,.slice B2 k2 e2])) 19 (.val (.slice (some ⟨z,0,none⟩) k k))) 84 (.val (.slice A3 p.rows.length c3))) 85 (.val (.int .i64 (p.rows.length:Int)))) 86 (.val (.int .i64 (i:Int)))) 21 (.val (.int .i64 (p.mi j:Int)))) 110 (.val (.int .i64 (p.free.length:Int)))) 111 (.val (.int .i64 (j:Int)))) (fun(j:Nat) H'=>SZ (kX k (eZ p (p.lp.a i) (p.aJ i:Rat) j)) H3 H' G i k 0 (dL p) p.unit u ((List.range i).map p.unit) z∧j≤p.free.length) 0 (⟨CO,Nat.zero_le _⟩) (by repeat (first | exact iL _ | refine du rfl ?_ | refine du (ja (by first | omega | (simp;done) | rfl)) ?_)) ?_)
   rintro j H7 ⟨hS,hj⟩;obtain⟨xs,hx,hC⟩:=hS.row;have cP:=yc hC;refine ag (ab 1 rfl (ae [1,2,4,5,8,13,14,15,16,18,19,21,84,85,86,110,111,112] ?_));refine ao (aC rfl (fun hb=> ?_) (fun hb=> ?_))
   ·
    have fL:j<p.free.length:=by simpa using hb
    obtain⟨uf,pf,jr⟩:=jl j _ (List.getElem?_eq_getElem fL);have jr: [uf] = [Value.bool p.free[j]]:=jr
    cases jr
    have nK:p.lp.free j=p.free[j]:=Prg.Bk (List.getElem?_eq_getElem fL);obtain⟨g6,G1,n1,o1,G2,n2,o2,Jk,pB,JA⟩:=aR.qW nC (akG hr (List.getElem?_eq_getElem (show j<r.1.length by rw[E8.1];exact fL)));have aaz:=Nf (p:=p) (j:=j);have T9:=pB.size;refine aA (aj [1,2,4,5,8,13,14,15,16,18,19,21,84,85,86,110,111] rfl ?_);refine ao (aF (ag (ab 2 rfl (ae [1,2,4,5,8,13,14,15,16,18,19,21,22,84,85,86,110,111] ?_))));refine ag (ab 5 rfl (ck (vs:=[.bool g6,.slice G1 n1 o1,.slice G2 n2 o2]) ah rfl rfl rfl rfl (T7.le hS.hle) rfl (by decide) JA (by have:=E8.1;omega) (by have:=E8.1;omega) fun _=> ?_));refine aE rfl rfl (Fn.kq hS.q.ne (tM (pB.le hS.le) (by omega))) ?_;rintro v8 H8 gp;obtain⟨t8,rfl,fo⟩:=gp.val;have rb:=(gp.kept.same z SZ.mU).trans hx;obtain⟨ti,ak,al⟩:=aY;refine cQ (.inl rfl) ah rfl rfl rfl (by omega) (by omega) (rb) rfl (by show 0+k*3≤xs.length;omega) ak al (fun _=>rfl) rfl rfl rfl fun _=> ?_;refine ae [1,2,4,5,8,13,14,15,16,18,19,21,22,84,85,86,110,111] ?_;rw[oj,Int.toNat_natCast];have kj:=hS.vR gp.kept hC (show j<k by omega) (show bZ _ [_,_,_] _ from fo);refine ag (ab 3 rfl (aQ ah rfl rfl rfl rfl rfl (jk.le (abf.trans kj.hle)) (by rw[Int.toNat_natCast];exact pf) (by omega) (by omega) fun _=> ?_))
    refine ae [1,2,4,5,8,13,14,15,16,18,19,21,22,84,85,86,110,111,127] ?_;refine aC rfl (fun hb=> ?_) (fun hb=> ?_)
    ·
     have fB:p.lp.free j=true:=by rw[nK];simpa using hb
     have xT:p.mi j<k:=by have:=vN (p:=p) (j:=j) fL fB;omega
     obtain⟨ys,hy,hD⟩:=kj.row;have kD:=yc hD;obtain⟨t9,x6,GQ⟩:=mm hD (show j<k by omega);rw[jE]at x6;have zP:aO (p.lp.a i j*(p.aJ i:Rat))≤N+4:=T9;refine ag (ab 4 rfl (ck (vs:=[.bool t9.f,.slice t9.A1 t9.m1 t9.c1,.slice t9.A2 t9.m2 t9.c2]) ah rfl rfl rfl rfl (dS hy) rfl (by decide) (by rw[Int.toNat_natCast];exact GQ) (by omega) (by omega) fun _=> ?_));refine aE rfl rfl (Fn.kq kj.q.ne (Ei ((bJ.raw x6).mono zP) (by omega))) ?_;rintro v10 vt sS;obtain⟨t10,rfl,oh⟩:=sS.val;have zT:=(sS.kept.same z SZ.mU).trans hy;obtain⟨ti,ak,al⟩:=aY;refine cQ (.inl rfl) ah rfl rfl rfl (by omega) (by omega) (zT) rfl (by show 0+k*3≤ys.length;omega) ak al (fun _=>rfl) rfl rfl rfl fun _=> ?_;refine ae [1,2,4,5,8,13,14,15,16,18,19,21,84,85,86,110,111] ?_;rw[oj,Int.toNat_natCast];have E9:=kj.vR sS.kept hD xT (show bZ _ [_,_,_] _ from oh);refine aB rfl (ab 1 rfl (aG rfl rfl ⟨by omega,by omega⟩ (ab 1 rfl (aw (aj [1,2,4,5,8,13,14,15,16,18,19,21,84,85,86,110,111] rfl ?_)))));refine aB rfl (aG rfl rfl ⟨by omega,by omega⟩ (ab 1 rfl (aw ?_)))
     have e8:p.mi (j+1)=p.mi j+1:=by rw[vO,if_pos fB]
     exact⟨j+1,by omega,ar,by unfold eZ;rw[if_pos fB];exact E9,by omega⟩
    have fB:¬p.lp.free j=true:=by rw[nK];simpa using hb
    refine aA (aj [1,2,4,5,8,13,14,15,16,18,19,21,84,85,86,110,111] rfl ?_);refine aB rfl (aG rfl rfl ⟨by omega,by omega⟩ (ab 1 rfl (aw ?_)))
    have e8:p.mi (j+1)=p.mi j:=by rw[vO,if_neg fB,Nat.add_zero]
    exact⟨j+1,by omega,ar,by unfold eZ;rw[if_neg fB];exact kj,by omega⟩
   have fL:p.free.length≤j:=by simpa using hb
   obtain rfl:j=p.free.length:=by omega
   have XC:=T6.size;refine aV (aj [1,2,4,5,8,13,14,15,16,18,19,84,85,86] rfl ?_);refine ag (ab 3 rfl (cV rfl rfl ⟨by omega,by omega⟩ (ab 2 rfl (aE rfl rfl (Fn.kq hS.q.ne (tM (T6.le hS.le) (by omega))) ?_))));rintro v8 H8 gp;obtain⟨t8,rfl,fo⟩:=gp.val;have rb:=(gp.kept.same z SZ.mU).trans hx;obtain⟨ti,ak,al⟩:=aY;refine cQ (.inl rfl) ah rfl rfl rfl (by omega) (by omega) (rb) rfl (by show 0+k*3≤xs.length;omega) ak al (fun _=>rfl) rfl rfl rfl fun _=> ?_;refine ae [1,2,4,5,8,13,14,15,16,18,19,84,85,86] ?_;rw[oj,show ((k:Int)-1).toNat=p.w by omega];have kj:SZ (kX k (TZ p i)) _ _ _ _ _ _ _ _ _ _ _:=hS.vR gp.kept hC (show p.w<k by omega) (show bZ _ [_,_,_] _ from fo);obtain⟨ys,hy,hD⟩:=kj.row;have kD:=yc hD;refine ag (ab 2 rfl (ae [1,2,4,5,8,13,14,15,16,18,19,23,84,85,86] ?_));refine kE (fun(b9:Bool)=>put (put (put (put (put (put (put (put (put (put (put (put (put (put (put (emp) 1 (.box [.slice Af p.free.length cf,.slice Ar p.rows.length cr])) 2 (.box [.slice none 0 0,.slice none 0 0])) 4 (.box [.bool t4.f,.slice t4.A1 t4.m1 t4.c1,.slice t4.A2 t4.m2 t4.c2])) 5 (.box [.bool t5.f,.slice t5.A1 t5.m1 t5.c1,.slice t5.A2 t5.m2 t5.c2])) 8 (.val (.int .i64 (p.af p.rows.length:Int)))) 13 (.val (.int .i64 (p.u:Int)))) 14 (.box [.slice G.Ar i G.cr,u])) 15 (.val (.int .i64 (bA p.lp.rel p.c1 (i+1):Int)))) 16 (.val (.int .i64 (aX p.lp.rel p.aJ p.u i:Int)))) 18 (.box [.slice A5 r.1.length c5,.int .i64 (fC r).2.1,.bool f5,.slice B1 k1 e1,.slice B2 k2 e2])) 19 (.val (.slice (some ⟨z,0,none⟩) k k))) 84 (.val (.slice A3 p.rows.length c3))) 85 (.val (.int .i64 (p.rows.length:Int)))) 86 (.val (.int .i64 (i:Int)))) 23 (.val (.int .i64 (bA p.lp.rel p.c1 i:Int)))) (fun(b9:Bool) H'=>SZ (kX k (E7 p i)) H3 H' G i k 0 (dL p) p.unit u ((List.range i).map p.unit) z) ?_ ?_
   ·
    refine ag (ab 3 rfl (ae [1,2,4,5,8,13,14,15,16,18,19,23,84,85,86,150] ?_));refine aC rfl (fun hb=> ?_) (fun hb=> ?_)
    ·
     have h2:¬p.lp.rel i=2:=fun h=>by have:=dX.2 h;simp at hb;omega
     have anF:=B0 (p:=p) aT h2;refine ag (vr 3 ?_);obtain⟨ti,ak,al⟩:=aY;refine cQ (.inl rfl) ah rfl rfl rfl (by omega) (by omega) (hy) rfl (by show 0+k*3≤ys.length;omega) ak al (fun _=>rfl) rfl rfl rfl fun _=> ?_;refine ae [1,2,4,5,8,13,14,15,16,18,19,23,84,85,86] ?_;rw[oj,Int.toNat_natCast];have zW:=kj.vR (.refl _ _) hD (show bA p.lp.rel p.c1 i<k by omega) (show bZ _ [_,_,_] _ from ep.le kj.le);obtain⟨zs,hzz,hE⟩:=zW.row;have Da:=yc hE;refine ao (ag (ab 3 rfl (ae [1,2,4,5,8,13,14,15,16,18,19,23,84,85,86,157] ?_)));refine aC rfl (fun hb=> ?_) (fun hb=> ?_)
     ·
      have h3:(fC r).2.1=3:=by simpa using hb
      refine aB rfl (ab 3 rfl (aE rfl rfl (Fn.kq zW.q.ne (Ei ((bJ.raw (ep.le zW.le)).mono oP) (by decide))) ?_));rintro v10 vt sS;obtain⟨t10,rfl,oh⟩:=sS.val;have zT:=(sS.kept.same z SZ.mU).trans hzz;obtain⟨ti,ak,al⟩:=aY;refine cQ (.inl rfl) ah rfl rfl rfl (by omega) (by omega) (zT) rfl (by show 0+k*3≤zs.length;omega) ak al (fun _=>rfl) rfl rfl rfl fun _=> ?_;refine aw ?_;rw[oj,Int.toNat_natCast];have E9:=zW.vR sS.kept hE (show bA p.lp.rel p.c1 i<k by omega) (show bZ _ [_,_,_] _ from oh);refine aj [1,2,4,5,8,13,14,15,16,18,19,23,84,85,86] rfl ?_;refine aB rfl (ab 1 rfl (aG rfl rfl ⟨by omega,by omega⟩ (ab 1 rfl (aw ?_))));rw[if_neg h2]at Hu
      exact⟨true,ar,by
       rw[akH]at E9
       unfold E7
       rw[if_neg h2,if_neg (by omega)];exact E9⟩
     have h3:¬(fC r).2.1=3:=by simpa using hb
     have h22:¬kB (p.lp.rel i) (p.aJ i)=2:=fun h=>h2 (dX.1 h);refine aA (aj [1,2,4,5,8,13,14,15,16,18,19,23,84,85,86] rfl ?_);refine aB rfl (ab 1 rfl (aG rfl rfl ⟨by omega,by omega⟩ (ab 1 rfl (aw ?_))));rw[if_neg h2]at Hu;exact⟨true,ar,by unfold E7;rw[if_neg h2,if_pos (by omega)];exact zW⟩
    have h2:p.lp.rel i=2:=dX.1 (by rw[←cU];simpa using hb);refine aA ?_;rw[if_pos h2]at Hu;exact⟨true,ar,by unfold E7;rw[if_pos h2];exact kj⟩
   rintro _ qb NJ;obtain⟨akK,akL,abi⟩:=NJ.row;have anG:=yc abi;refine kE (fun(b9:Bool)=>put (put (put (put (put (put (put (put (put (put (put (put (put (put (emp) 1 (.box [.slice Af p.free.length cf,.slice Ar p.rows.length cr])) 2 (.box [.slice none 0 0,.slice none 0 0])) 4 (.box [.bool t4.f,.slice t4.A1 t4.m1 t4.c1,.slice t4.A2 t4.m2 t4.c2])) 5 (.box [.bool t5.f,.slice t5.A1 t5.m1 t5.c1,.slice t5.A2 t5.m2 t5.c2])) 8 (.val (.int .i64 (p.af p.rows.length:Int)))) 13 (.val (.int .i64 (p.u:Int)))) 14 (.box [.slice G.Ar i G.cr,u])) 15 (.val (.int .i64 (bA p.lp.rel p.c1 (i+1):Int)))) 16 (.val (.int .i64 (aX p.lp.rel p.aJ p.u (i+1):Int)))) 19 (.val (.slice (some ⟨z,0,none⟩) k k))) 84 (.val (.slice A3 p.rows.length c3))) 85 (.val (.int .i64 (p.rows.length:Int)))) 86 (.val (.int .i64 (i:Int)))) 23 (.val (.int .i64 (p.unit i:Int)))) (fun(b9:Bool) H'=>SZ (kX k (dL p i)) H3 H' G i k 0 (dL p) p.unit u ((List.range i).map p.unit) z) ?_ ?_
   ·
    refine ag (ab 3 rfl (ae [1,2,4,5,8,13,14,15,16,19,23,84,85,86,167] ?_));refine aC rfl (fun hb=> ?_) (fun hb=> ?_)
    ·
     have h4:¬(fC r).2.1=1:=by simpa using hb
     have h5:¬eY (p.lp.rel i) (p.aJ i)=true:=fun h=>h4 (by have:=ho.1 h;omega);rw[if_neg h5]at abh;have pR:=vC h5;have hul:=nX p aT;refine ag (vr 4 ?_);obtain⟨ti,ak,al⟩:=aY;refine cQ (.inl rfl) ah rfl rfl rfl (by omega) (by omega) (akL) rfl (by show 0+k*3≤akK.length;omega) ak al (fun _=>rfl) rfl rfl rfl fun _=> ?_;refine ab 1 rfl (ae [1,2,4,5,8,13,14,15,16,19,23,84,85,86] ?_);rw[oj,Int.toNat_natCast];have NK:=NJ.vR (.refl _ _) abi (show aX p.lp.rel p.aJ p.u i<k by omega) (show bZ _ [_,_,_] _ from ep.le NJ.le);refine aB rfl (ab 1 rfl (aG rfl rfl ⟨by omega,by omega⟩ (ab 1 rfl (aw ?_))));exact⟨true,ar,by rw[abe,if_neg (by omega)];exact NK⟩
    have h4:(fC r).2.1=1:=by simpa using hb
    have h5:=ho.2 (by omega);rw[if_pos h5]at abh;have pR:=zu h5;refine aA ?_;exact⟨true,ar,by rw[abe,if_pos (by omega)];exact NJ⟩
   rintro _ E5 abj;obtain⟨anH,anI,anJ⟩:=abj.row;refine eu .bL [0,1,2,5,6,7,3,4,10,8,9,11,12,13] follows (by kernel_rfl) ?_;refine ab 6 rfl (cW Tryz.underlying40 rE rfl rfl rfl rfl rfl rfl rfl ?_);intro gb bx;have abk:=abj.fresh zV (e:=whole [.slice (some ⟨z,0,none⟩) k k] 26) bx;refine dR Tryz.underlying40 rE rfl rfl abk.q.rows (dD _ _ _ _ _ _) rfl (BZ _ _ _) (by omega) (by omega) ?_;intro v8 TS kL;obtain⟨A9,c9,rfl⟩:=kL.own.form;have Ua:=abk.more (Nw kL)
   replace Ua:=Ua.CE fun i' fX j' hj'=>show dL p i' j'=(if i'=i then dL p i else dL p i') j' by
    by_cases e9:i'=i
    ·rw[if_pos e9,e9]
    ·rw[if_neg e9]
   refine ab 1 rfl (cW Tryz.underlying94 jb rfl rfl rfl rfl rfl rfl rfl ?_);intro gc j9;have abl:=Ua.fresh (e:=whole [.int .i64 (p.unit i:Int)] 3) j9;refine dR Tryz.underlying94 jb rfl rfl abl.own (dD _ _ _ _ _ _) rfl (sA _) (by omega) (by omega) ?_;intro u9 Mr qR;obtain⟨Au9,cu9,rfl⟩:=qR.own.form;have qY:=abl.app rfl qR;rw[←aiQ (f:=p.unit)]at qY;obtain⟨ti,ak,al⟩:=FW;refine aH (.inr rfl) rfl rfl rfl ak al rfl rfl rfl (vr 1 ?_);obtain⟨ti,ak,al⟩:=uN;refine aH (.inr rfl) rfl rfl rfl ak al rfl rfl rfl (aw (aj [1,2,4,5,8,13,14,15,16,84,85,86] rfl ?_));refine aB rfl (aG rfl rfl ⟨by omega,by omega⟩ (ab 1 rfl (aw ?_)));exact⟨i+1,G.more G.top z _ A9 c9 i,_,by omega,ar,qY,T1,hGb,by omega⟩
  have aT:p.rows.length≤i:=by simpa using hb
  obtain rfl:i=p.rows.length:=by omega
  obtain⟨Au,cu,rfl⟩:=hU.own.form;have abm:=hU.fin hGb;refine aV (aj [2,13,14] rfl ?_);refine ag (vr 2 ?_);obtain⟨ti,ak,al⟩:=OV;refine aH (.inl ⟨rfl,rfl⟩) rfl rfl rfl ak al rfl rfl rfl (ab 1 rfl (ae [2,3] ?_));obtain⟨bQ,aM,aN⟩:=OV;refine aD ⟨.inr rfl,_,.agg rfl Tryz.underlying103 aM aN (.tmp rfl (.nil)),?_⟩;exact⟨G.fin _,rfl,T1,abm.1,abf.trans abm.2⟩
end Go.au
namespace Go.au
open Go.Proofs Num Lp
theorem abn{M:Nat→Nat→Rat}{B:Nat→Nat}{n m N:Nat}(hN:1≤N)(hz:∀i,i<m→aO (M i n)≤N)(j:Nat):∀i,i≤m→aO (iG M B n i j)≤N:=by
 intro i
 induction i with
 | zero=>intro _;exact Nat.le_trans Ns hN
 | succ i ih=>
  intro hi
  unfold iG
  by_cases e:j=B i
  ·rw[e,jE];exact hz i (by omega)
  ·rw[eF e];exact ih (by omega)
theorem akM{p:Prg}{a:Nat→Rat}{N:Nat}(h:∀j,aO (a j)≤N)(j:Nat):aO (jP p a j)≤2*N+1:=by
 unfold jP
 have h1:=h j
 have h2:=h (p.mi j)
 have h3:=tv (a j) (a (p.mi j))
 split <;> omega
theorem JB{H H':Heap}{z:Nat}{e:Ent}(hz:H z=none)(hl:Heap.le H H'):Heap.le H (ins H' z e):=fun q en hq=>by
 obtain⟨El,h1,h2⟩:=hl q en hq
 exact⟨El,by rw[a6 _ _ (fun(e':q=z)=>by rw[e',hz]at hq;cases hq)];exact h1,h2⟩
theorem akN{H:Heap}{G:GG}{R W m N N1:Nat}{M:Nat→Nat→Rat}{B:Nat→Nat}{p:Prg}{pv cv:Value}{c:List Rat}(h:ct iF H G R W m M B)(S0:m≤R)(hp:eH N (rem H G.gs) pv p)(hc:aR (bN N) 3 (rem H G.gs) cv c)(fi:c.length=p.free.length)(sM:p.c1≤W)(hB:∀i,i<m→B i<W)(hR:(R:Int)≤900000)(hW:(W:Int)≤1000000)(hN:(N:Int)≤400000000)(hN1:(N1:Int)≤300000000000)(hz:∀i,i≤m→∀k,k<W→aO (lK M B (eZ p (fn c) 1 p.lp.n) i k)≤N1)(xW:∀i,i<m→∀k,k<W→aO (M i k)≤N1):
 Fn Tryz.prog 69 #[pv,cv,.agg #[.slice G.Ar R G.cr,G.bv],.int .i64 (W:Int)] H (fun v H'=>∃z,v = .slice (some ⟨z,0,none⟩) W W∧SZ (kX W (lK M B (eZ p (fn c) 1 p.lp.n) m)) (rem H G.gs) H' G R W m M B (.slice none 0 0) [] z∧Heap.le H H'):=by
 obtain⟨fv,gB,rfl,eI,fk⟩:=id hp
 obtain⟨Af,cf,xf,rfl,jk,jl⟩:=eI.one
 obtain⟨Ar,cr,xr,rfl,jL,fy,iE⟩:=id fk
 obtain⟨Ab,cb,dh,fV⟩:=h.sQ
 rw[dh]
 have dg:=xS (p:=p)
 have hpn:p.lp.n=p.free.length:=rfl
 have Td:p.free.length≤W:=Nat.le_trans dg sM
 obtain⟨Ac,cc,xc,rfl,Mp,nT,tI⟩:=id hc;refine a7 (args:=[_,_,_,_]) Tryz.func69 rfl rfl Tryz.ntmps69 rfl rfl fun w0=> ?_;refine aj [0,1,2,3] rfl ?_;refine ag (bX rfl rfl (bX rfl rfl (ab 1 rfl (ae [1,3,4,6] ?_))));refine ag (ab 1 rfl (gF Tryz.underlying26 bY rfl rfl rfl (by omega) (by omega) (by omega) (by omega) ?_));intro z ji;rw[Int.toNat_natCast];have CN:=h.gu.start (C:=lL W (fun _=>0) 0) (xs:=cg [.bool false,.slice none 0 0,.slice none 0 0] (W*3)) ji NH;refine ab 1 rfl (ae [1,4,6,9] ?_);refine ao (ag (ab 3 rfl (ae [1,4,6,9,19,20] ?_)));refine aF (gG (fun(k:Nat)=>W-k) (fun(k:Nat)=>put (put (put (put (put (put (emp) 1 (.val (.slice Ac c.length cc))) 4 (.box [.slice Af p.free.length cf,.slice Ar p.rows.length cr])) 6 (.box [.slice G.Ar R G.cr,.slice Ab m cb])) 9 (.val (.slice (some ⟨z,0,none⟩) W W))) 19 (.val (.int .i64 (W:Int)))) 20 (.val (.int .i64 (k:Int)))) (fun(k:Nat) H'=>SZ (lL W (fun _=>0) k) (rem H G.gs) H' G R W m M B (.slice none 0 0) [] z∧k≤W∧Heap.le H H') 0 (⟨CN,Nat.zero_le _,Heap.bB _ ji⟩) ar ?_);rintro k H2 ⟨hS,hk,eo⟩;obtain⟨xs,hx,hC⟩:=hS.row;have cP:=Jy hC hk;refine ag (ab 1 rfl (ae [1,4,6,9,19,20,21] ?_))
 refine ao (aC rfl (fun hb=> ?_) (fun hb=> ?_))
 ·
  have fm:k<W:=by simpa using hb
  refine aA (aj [1,4,6,9,19,20] rfl ?_);refine ao (aF (ag (ab 2 rfl (ae [1,4,6,9,10,19,20] ?_))));refine aB rfl (ab 2 rfl (aE rfl rfl (Fn.kq hS.q.ne (pX (n:=0) (by decide) (by decide))) ?_));rintro v8 H8 gp;obtain⟨t8,rfl,fo⟩:=gp.val;rw[show ((0:Int):Rat)=0 from rfl]at fo;have rb:=(gp.kept.same z SZ.mU).trans hx;obtain⟨ti,ak,al⟩:=aY;refine cQ (.inl rfl) ah rfl rfl rfl (by omega) (by omega) (rb) rfl (by show 0+W*3≤xs.length;omega) ak al (fun _=>rfl) rfl rfl rfl fun _=> ?_;refine aw ?_;rw[oj,Int.toNat_natCast];have kj:=hS.set gp.kept (NF (TY _ _ _ gp.kept.le hC) fm (show bZ _ [_,_,_] _ from fo));refine aj [1,4,6,9,19,20] rfl ?_;refine aB rfl (aG rfl rfl ⟨by omega,by omega⟩ (ab 1 rfl (aw ?_)));exact⟨k+1,by omega,ar,kj,by omega,JB ji (eo.trans gp.le)⟩
 ·
  have fm:W≤k:=by simpa using hb
  obtain ek:k=W:=by omega
  rw[ek]at hS;have CO:=hS.to (C':=kX W (eZ p (fn c) 1 0)) fun _ h=>NG h;refine aV (aj [1,4,6,9] rfl ?_);refine ag (ab 4 rfl (ae [1,4,6,9,11] ?_));refine ao (ag (ab 4 rfl (ae [1,4,6,9,11,33,34] ?_)));refine aF (gG (fun(j:Nat)=>p.free.length-j) (fun(j:Nat)=>put (put (put (put (put (put (put (emp) 1 (.val (.slice Ac c.length cc))) 4 (.box [.slice Af p.free.length cf,.slice Ar p.rows.length cr])) 6 (.box [.slice G.Ar R G.cr,.slice Ab m cb])) 9 (.val (.slice (some ⟨z,0,none⟩) W W))) 11 (.val (.int .i64 (p.mi j:Int)))) 33 (.val (.int .i64 (p.free.length:Int)))) 34 (.val (.int .i64 (j:Int)))) (fun(j:Nat) H'=>SZ (kX W (eZ p (fn c) 1 j)) (rem H G.gs) H' G R W m M B (.slice none 0 0) [] z∧j≤p.free.length∧Heap.le H H') 0 (⟨CO,Nat.zero_le _,eo⟩) (by repeat (first | exact iL _ | refine du rfl ?_ | refine du (ja (by first | omega | (simp;done) | rfl)) ?_)) ?_);rintro j H3 ⟨hS,hj,eo⟩;obtain⟨xs,hx,hC⟩:=hS.row;have cP:=yc hC;refine ag (ab 1 rfl (ae [1,4,6,9,11,33,34,35] ?_));refine ao (aC rfl (fun hb=> ?_) (fun hb=> ?_))
  ·
   have fL:j<p.free.length:=by simpa using hb
   obtain⟨uf,pf,jr⟩:=jl j _ (List.getElem?_eq_getElem fL);have jr: [uf] = [Value.bool p.free[j]]:=jr
   cases jr
   have nK:p.lp.free j=p.free[j]:=Prg.Bk (List.getElem?_eq_getElem fL);obtain⟨g6,G1,n1,o1,G2,n2,o2,Jk,pB,JA⟩:=aR.qW tI (show c[j]? = some (fn c j*1) by rw[Rat.mul_one,List.getElem?_eq_getElem (by omega),kT (List.getElem?_eq_getElem (by omega))]);have T9:=pB.size;have aaz:=Nf (p:=p) (j:=j);refine aA (aj [1,4,6,9,11,33,34] rfl ?_);refine ao (aF (ag (ab 2 rfl (ae [1,4,6,9,11,12,33,34] ?_))));refine ag (ab 4 rfl (ck (vs:=[.bool g6,.slice G1 n1 o1,.slice G2 n2 o2]) ah rfl rfl rfl rfl (nT.le (hS.le.trans (bE _ _))) rfl (by decide) JA (by omega) (by omega) fun _=>(aE rfl rfl (Fn.kq hS.q.ne (tM (pB.le hS.le) (by omega))) ?_)));rintro v8 H8 gp;obtain⟨t8,rfl,fo⟩:=gp.val;have rb:=(gp.kept.same z SZ.mU).trans hx;obtain⟨ti,ak,al⟩:=aY;refine cQ (.inl rfl) ah rfl rfl rfl (by omega) (by omega) (rb) rfl (by show 0+W*3≤xs.length;omega) ak al (fun _=>rfl) rfl rfl rfl fun _=> ?_;refine ae [1,4,6,9,11,12,33,34] ?_;rw[oj,Int.toNat_natCast];have kj:=hS.vR gp.kept hC (show j<W by omega) (show bZ _ [_,_,_] _ from fo);refine ag (ab 3 rfl (aQ ah rfl rfl rfl rfl rfl (jk.le (kj.le.trans (bE _ _))) (by rw[Int.toNat_natCast];exact pf) (by omega) (by omega) fun _=> ?_))
   refine ae [1,4,6,9,11,12,33,34,49] ?_;refine aC rfl (fun hb=> ?_) (fun hb=> ?_)
   ·
    have fB:p.lp.free j=true:=by rw[nK];simpa using hb
    have xT:p.mi j<W:=Nat.lt_of_lt_of_le (vN (p:=p) (j:=j) fL fB) sM;obtain⟨ys,hy,hD⟩:=kj.row;have kD:=yc hD;obtain⟨t9,x6,GQ⟩:=mm hD (show j<W by omega);rw[jE]at x6;have zP:aO (fn c j*1)≤N+2:=T9;refine ag (ab 4 rfl (ck (vs:=[.bool t9.f,.slice t9.A1 t9.m1 t9.c1,.slice t9.A2 t9.m2 t9.c2]) ah rfl rfl rfl rfl (dS hy) rfl (by decide) (by rw[Int.toNat_natCast];exact GQ) (by omega) (by omega) fun _=> ?_));refine aE rfl rfl (Fn.kq kj.q.ne (Ei ((bJ.raw x6).mono zP) (by omega))) ?_;rintro v10 vt sS;obtain⟨t10,rfl,oh⟩:=sS.val;have zT:=(sS.kept.same z SZ.mU).trans hy;obtain⟨ti,ak,al⟩:=aY;refine cQ (.inl rfl) ah rfl rfl rfl (by omega) (by omega) (zT) rfl (by show 0+W*3≤ys.length;omega) ak al (fun _=>rfl) rfl rfl rfl fun _=> ?_;refine ae [1,4,6,9,11,33,34] ?_;rw[oj,Int.toNat_natCast];have E9:=kj.vR sS.kept hD xT (show bZ _ [_,_,_] _ from oh);refine aB rfl (ab 1 rfl (aG rfl rfl ⟨by omega,by omega⟩ (ab 1 rfl (aw (aj [1,4,6,9,11,33,34] rfl ?_)))));refine aB rfl (aG rfl rfl ⟨by omega,by omega⟩ (ab 1 rfl (aw ?_)))
    have e8:p.mi (j+1)=p.mi j+1:=by rw[vO,if_pos fB]
    exact⟨j+1,by omega,ar,by unfold eZ;rw[if_pos fB];exact E9,by omega,JB ji ((JB ji (eo.trans gp.le)).trans sS.le)⟩
   have fB:¬p.lp.free j=true:=by rw[nK];simpa using hb
   refine aA (aj [1,4,6,9,11,33,34] rfl ?_);refine aB rfl (aG rfl rfl ⟨by omega,by omega⟩ (ab 1 rfl (aw ?_)))
   have e8:p.mi (j+1)=p.mi j:=by rw[vO,if_neg fB,Nat.add_zero]
   exact⟨j+1,by omega,ar,by unfold eZ;rw[if_neg fB];exact kj,by omega,JB ji (eo.trans gp.le)⟩
  have fL:p.free.length≤j:=by simpa using hb
  obtain rfl:j=p.free.length:=by omega
  refine aV (aj [6,9] rfl ?_);refine ao (ag (ab 4 rfl (ae [6,9,63,64] ?_)));refine aF (gX (fun(i:Nat)(f:Nat→Rat)=>m-i) (fun(i:Nat)(f:Nat→Rat)=>put (put (put (put (emp) 6 (.box [.slice G.Ar R G.cr,.slice Ab m cb])) 9 (.val (.slice (some ⟨z,0,none⟩) W W))) 63 (.val (.int .i64 (m:Int)))) 64 (.val (.int .i64 (i:Int)))) (fun(i:Nat)(f:Nat→Rat) H'=>SZ (kX W f) (rem H G.gs) H' G R W m M B (.slice none 0 0) [] z∧(∀q,q<W→f q=lK M B (eZ p (fn c) 1 p.lp.n) i q)∧i≤m∧Heap.le H H') 0 (eZ p (fn c) 1 p.lp.n) (⟨hS,fun _ _=>rfl,Nat.zero_le _,eo⟩) ar ?_);rintro i f H4 ⟨hZ,hI,hi,eo⟩;obtain⟨zs,qt,sB⟩:=hZ.row;refine ag (ab 1 rfl (ae [6,9,63,64,65] ?_));refine ao (aC rfl (fun hb=> ?_) (fun hb=> ?_))
  ·
   have aT:i<m:=by simpa using hb
   have uh:=hB i aT;obtain⟨t4,NL,oQ⟩:=mm sB uh;have Ts:=hz i hi (B i) uh;rw[←hI _ uh]at Ts;obtain⟨pi,cS⟩:=h.get (show i<R by omega);refine aA (aj [6,9,63,64] rfl ?_);refine ao (aF (ag (ab 2 rfl (ae [6,9,13,63,64] ?_))));refine ag (ab 4 rfl (aQ ah rfl rfl rfl rfl rfl (fV hZ.q i aT) (by rw[Int.toNat_natCast];exact gI aT) (by omega) (by omega) fun _=> ?_));refine ck (vs:=[.bool t4.f,.slice t4.A1 t4.m1 t4.c1,.slice t4.A2 t4.m2 t4.c2]) ah rfl rfl rfl rfl (dS qt) rfl (by decide) (by rw[Int.toNat_natCast];exact oQ) (by omega) (by omega) fun _=> ?_;refine bt bY rfl ?_;obtain⟨ti,ak,al⟩:=aY;refine aH (.inl ⟨rfl,rfl⟩) rfl rfl rfl ak al rfl rfl rfl (ae [6,9,13,14,63,64] ?_);refine ao (ag (ab 1 rfl (aE rfl rfl (Fn.l0 hZ.q.ne (xB (bJ.raw NL) (by omega))) ?_)));rintro v5 H5 ⟨mI,fI,rfl⟩;have qe:=hZ.kept zV mI;have wZ:=NL.le mI.le;refine ab 1 rfl (ae [6,9,13,14,63,64,77] ?_);refine aC rfl (fun hb=> ?_) (fun hb=> ?_)
   ·
    skip
    refine aV (aj [6,9,63,64] rfl ?_);refine aB rfl (aG rfl rfl ⟨by omega,by omega⟩ (ab 1 rfl (aw ?_)))
    exact⟨i+1,f,by omega,ar,qe,fun q hq=>by
     rw[aay (by rw[←hI _ uh];exact tH (by simpa using hb))];exact hI q hq,by omega,eo.trans fI⟩
   have TD:=qe.od;refine aA (aj [6,9,13,14,63,64] rfl ?_);refine ag (ab 3 rfl (ae [6,9,13,14,63,64,79,80] ?_));refine aF (gX (fun(q:Nat)(f2:Nat→Rat)=>W-q) (fun(q:Nat)(f2:Nat→Rat)=>put (put (put (put (put (put (put (put (emp) 6 (.box [.slice G.Ar R G.cr,.slice Ab m cb])) 9 (.val (.slice (some ⟨z,0,none⟩) W W))) 13 (.val (.int .i64 (i:Int)))) 14 (.box [.bool t4.f,.slice t4.A1 t4.m1 t4.c1,.slice t4.A2 t4.m2 t4.c2])) 63 (.val (.int .i64 (m:Int)))) 64 (.val (.int .i64 (i:Int)))) 79 (.val (.int .i64 (W:Int)))) 80 (.val (.int .i64 (q:Int)))) (fun(q:Nat)(f2:Nat→Rat) H'=>SZ (kX W f2) (rem H5 (G.on (z::(az (.slice none 0 0)++G.top))).gs) H' G R W m M B (.slice none 0 0) [] z∧(∀j,f2 j=if j<q then f j-f (B i)*M i j else f j)∧q≤W∧Heap.le H H') 0 f (⟨TD,fun j=>by rw[if_neg (Nat.not_lt_zero _)],Nat.zero_le _,eo.trans fI⟩) ar ?_);rintro q f2 H6 ⟨hY,Ub,jN,eo⟩;obtain⟨ws,sN,nN⟩:=hY.row;obtain⟨xi6,si6,Tg,Th⟩:=hY.q.q6 (G:=G.on _) cS;have pQ:=yc nN;refine ag (ab 1 rfl (ae [6,9,13,14,63,64,79,80,81] ?_));refine ao (aC rfl (fun hb=> ?_) (fun hb=> ?_))
   ·
    have sO:q<W:=by simpa using hb
    obtain⟨t5,abo,mM⟩:=mm nN sO;obtain⟨t6,zc,qJ⟩:=mm Th sO
    have e5:f2 q=f q:=by rw[Ub q,if_neg (by omega)]
    rw[e5]at abo;have vv:=hz i hi q sO;rw[←hI _ sO]at vv;have vw:=xW i aT q sO;have Tp:=vc (f (B i)) (M i q);refine aA (aj [6,9,13,14,63,64,79,80] rfl ?_);refine ao (aF (ag (ab 2 rfl (ae [6,9,13,14,15,63,64,79,80] ?_))));refine eu .gD [0,1,2,3,4,5,6,7,8,9,10,11,12,13,14,15,16,17,18] follows (iz [0,0,0,0,12,28,0,0,128,0,896,1920,0,8064,16256,32704,65532,131071,262143] (by kernel_rfl)) ?_;refine ab 4 rfl (ck (vs:=[.bool t5.f,.slice t5.A1 t5.m1 t5.c1,.slice t5.A2 t5.m2 t5.c2]) ah rfl rfl rfl rfl (dS sN) rfl (by decide) (by rw[Int.toNat_natCast];exact mM) (by omega) (by omega) fun _=> ?_);refine ab 4 rfl (aQ ah rfl rfl rfl rfl rfl (hY.q.hd) (by rw[Int.toNat_natCast];exact kA (rg:=G.rg) (W:=_) cS) (by omega) (by omega) fun _=> ?_);refine ab 1 rfl (ck (vs:=[.bool t6.f,.slice t6.A1 t6.m1 t6.c1,.slice t6.A2 t6.m2 t6.c2]) ah rfl rfl rfl rfl (dS Tg) rfl (by decide) (by rw[Int.toNat_natCast];exact qJ) (by omega) (by omega) fun _=> ?_);refine bm rfl rfl (Fn.kq hY.q.ne (LW (N:=N1) ((bJ.raw (wZ.le hY.le)).mono Ts) ((bJ.raw zc).mono vw) (by omega))) (fun _ _ h=>by first | exact h.le | exact h.1) ?_;rintro v7 H7 Fa;obtain⟨t7,rfl,iS⟩:=Fa.val;have hY7:=hY.kept zV Fa.kept
    refine bm rfl rfl (Fn.kq hY7.q.ne (Ej (N:=2*N1) ((bJ.raw (abo.le Fa.kept.le)).mono (by omega)) ((bJ.raw iS).mono (by omega)) (by omega))) (fun _ _ h=>by first | exact h.le | exact h.1) ?_;rintro v8 H8 gp;obtain⟨t8,rfl,fo⟩:=gp.val;have Tj:=(gp.kept.same z SZ.mU).trans ((Fa.kept.same z SZ.mU).trans sN);obtain⟨ti,ak,al⟩:=aY;refine cQ (.inr rfl) ah rfl rfl rfl (by omega) (by omega) (Tj) rfl (by show 0+W*3≤ws.length;omega) ak al (fun _=>rfl) rfl rfl rfl fun _=> ?_;refine aw ?_;rw[oj,Int.toNat_natCast];have Tk:=hY7.vR gp.kept (zV _ _ _ Fa.kept.le nN) sO (show bZ _ [_,_,_] _ from fo);refine aj [6,9,13,14,63,64,79,80] rfl ?_;refine aB rfl (aG rfl rfl ⟨by omega,by omega⟩ (ab 1 rfl (aw ?_)))
    exact⟨q+1,bV f2 q (f q-f (B i)*M i q),by omega,ar,Tk,fun j=>by
     by_cases ej:j=q
     ·
      subst ej;rw[qX,if_pos (by omega)]
     ·
      rw[pz ej,Ub j]
      by_cases hj:j<q
      ·rw[if_pos hj,if_pos (by omega)]
      ·rw[if_neg hj,if_neg (by omega)],by omega,JB ji ((eo.trans Fa.le).trans gp.le)⟩
   have sO:W≤q:=by simpa using hb
   obtain rfl:q=W:=by omega
   refine aV (aj [6,9,63,64] rfl ?_);refine aB rfl (aG rfl rfl ⟨by omega,by omega⟩ (ab 1 rfl (aw ?_)))
   exact⟨i+1,f2,by omega,ar,hY.down qe.le,fun q hq=>by
    rw[Ub q,if_pos hq,hI q hq,hI _ uh];rfl,by omega,eo⟩
  have aT:m≤i:=by simpa using hb
  obtain rfl:i=m:=by omega
  refine aV (aj [9] rfl ?_);refine ag (ab 2 rfl (ae [8] ?_));refine aD ⟨.inr rfl,_,.tmp rfl (.nil),?_⟩;exact⟨z,rfl,hZ.to fun xs hx=>by show bC _ _ _ _;rw[←lz (f:=f) (fun j hj=>hI j hj)];exact hx,eo⟩
theorem akO{H:Heap}{G:GG}{R W m N N1:Nat}{M:Nat→Nat→Rat}{B:Nat→Nat}{p:Prg}{pv:Value}(h:ct iF H G R W m M B)(S0:m≤R)(hp:eH N (rem H G.gs) pv p)(sM:p.c1≤W)(hW1:1≤W)(hB:∀i,i<m→B i<W)(hR:(R:Int)≤900000)(hW:(W:Int)≤1000000)(hN1:(N1:Int)≤300000000000)(h1N:1≤N1)(xW:∀i,i<m→aO (M i (W-1))≤N1):
 Fn Tryz.prog 70 #[pv,.agg #[.slice G.Ar R G.cr,G.bv],.int .i64 (W:Int)] H (fun v H'=>Heap.le H H'∧aR bZ 3 H' v (aK (jP p (iG M B (W-1) m)) p.free.length)):=by
 obtain⟨fv,gB,rfl,eI,fk⟩:=id hp
 obtain⟨Af,cf,xf,rfl,jk,jl⟩:=eI.one
 obtain⟨Ar,cr,xr,rfl,jL,fy,iE⟩:=id fk
 obtain⟨Ab,cb,dh,fV⟩:=h.sQ
 rw[dh]
 have dg:=xS (p:=p)
 have hpn:p.lp.n=p.free.length:=rfl
 have Td:p.free.length≤W:=Nat.le_trans dg sM
 have cK:=abn (B:=B) (n:=W-1) h1N xW;refine a7 (args:=[_,_,_]) Tryz.func70 rfl rfl Tryz.ntmps70 rfl rfl fun w0=> ?_;refine aj [0,1,2] rfl ?_;refine ag (bX rfl rfl (bX rfl rfl (ab 1 rfl (ae [2,3,4] ?_))));refine ag (ab 1 rfl (gF Tryz.underlying26 bY rfl rfl rfl (by omega) (by omega) (by omega) (by omega) ?_));intro z ji;rw[Int.toNat_natCast];have CN:=h.gu.start (C:=lL W (fun _=>0) 0) (xs:=cg [.bool false,.slice none 0 0,.slice none 0 0] (W*3)) ji NH;have BQ:Heap.le H (ins H z ⟨cg [.bool false,.slice none 0 0,.slice none 0 0] (W*3),W*3,31,true⟩):=Heap.bB _ ji;refine ab 1 rfl (ae [2,3,4,7] ?_);refine ao (ag (ab 3 rfl (ae [2,3,4,7,17,18] ?_)));refine aF (gG (fun(k:Nat)=>W-k) (fun(k:Nat)=>put (put (put (put (put (put (emp) 2 (.val (.int .i64 (W:Int)))) 3 (.box [.slice Af p.free.length cf,.slice Ar p.rows.length cr])) 4 (.box [.slice G.Ar R G.cr,.slice Ab m cb])) 7 (.val (.slice (some ⟨z,0,none⟩) W W))) 17 (.val (.int .i64 (W:Int)))) 18 (.val (.int .i64 (k:Int)))) (fun(k:Nat) H'=>SZ (lL W (fun _=>0) k) (rem H G.gs) H' G R W m M B (.slice none 0 0) [] z∧k≤W∧∀q,q∈G.gs→H' q=H q) 0 (⟨CN,Nat.zero_le _,fun q hq=>a6 _ _ fun(e:q=z)=>h.ne q hq (by rw[e];exact ji)⟩) ar ?_)
 rintro k H2 ⟨hS,hk,wh⟩;obtain⟨xs,hx,hC⟩:=hS.row;have cP:=Jy hC hk;refine ag (ab 1 rfl (ae [2,3,4,7,17,18,19] ?_));refine ao (aC rfl (fun hb=> ?_) (fun hb=> ?_))
 ·
  have fm:k<W:=by simpa using hb
  refine aA (aj [2,3,4,7,17,18] rfl ?_);refine ao (aF (ag (ab 2 rfl (ae [2,3,4,7,8,17,18] ?_))));refine aB rfl (ab 2 rfl (aE rfl rfl (Fn.kq hS.q.ne (pX (n:=0) (by decide) (by decide))) ?_));rintro v8 H8 gp;obtain⟨t8,rfl,fo⟩:=gp.val;rw[show ((0:Int):Rat)=0 from rfl]at fo;have rb:=(gp.kept.same z SZ.mU).trans hx;obtain⟨ti,ak,al⟩:=aY;refine cQ (.inl rfl) ah rfl rfl rfl (by omega) (by omega) (rb) rfl (by show 0+W*3≤xs.length;omega) ak al (fun _=>rfl) rfl rfl rfl fun _=> ?_;refine aw ?_;rw[oj,Int.toNat_natCast];have kj:=hS.set gp.kept (NF (TY _ _ _ gp.kept.le hC) fm (show bZ _ [_,_,_] _ from fo));refine aj [2,3,4,7,17,18] rfl ?_;refine aB rfl (aG rfl rfl ⟨by omega,by omega⟩ (ab 1 rfl (aw ?_)));exact⟨k+1,by omega,ar,kj,by omega,fun q hq=>by rw[a6 _ _ (hS.zne hq),gp.kept.same q (List.mem_cons_of_mem _ hq)];exact wh q hq⟩
 ·
  have fm:W≤k:=by simpa using hb
  obtain ek:k=W:=by omega
  rw[ek]at hS;have CO:=hS.to (C':=kX W (iG M B (W-1) 0)) fun _ h=>NG h;refine aV (aj [2,3,4,7] rfl ?_);refine ao (ag (ab 4 rfl (ae [2,3,4,7,28,29] ?_)));refine aF (gG (fun(i:Nat)=>m-i) (fun(i:Nat)=>put (put (put (put (put (put (emp) 2 (.val (.int .i64 (W:Int)))) 3 (.box [.slice Af p.free.length cf,.slice Ar p.rows.length cr])) 4 (.box [.slice G.Ar R G.cr,.slice Ab m cb])) 7 (.val (.slice (some ⟨z,0,none⟩) W W))) 28 (.val (.int .i64 (m:Int)))) 29 (.val (.int .i64 (i:Int)))) (fun(i:Nat) H'=>SZ (kX W (iG M B (W-1) i)) (rem H G.gs) H' G R W m M B (.slice none 0 0) [] z∧i≤m∧∀q,q∈G.gs→H' q=H q) 0 (⟨CO,Nat.zero_le _,wh⟩) ar ?_);rintro i H3 ⟨hS,hi,wh⟩;obtain⟨xs,hx,hC⟩:=hS.row;have cP:=yc hC;refine ag (ab 1 rfl (ae [2,3,4,7,28,29,30] ?_));refine ao (aC rfl (fun hb=> ?_) (fun hb=> ?_))
  ·
   have aT:i<m:=by simpa using hb
   have uh:=hB i aT;obtain⟨pi,cS⟩:=h.get (show i<R by omega);obtain⟨xi,si,sI,xP⟩:=hS.q.q6 (G:=G.on _) cS;obtain⟨t4,NL,oQ⟩:=mm xP (show W-1<W by omega);refine aA (aj [2,3,4,7,28,29] rfl ?_);refine ao (aF (ag (ab 2 rfl (ae [2,3,4,7,9,28,29] ?_))));refine eu .gD [0,1,2,3,4,5,6,7,8,9,10,11,12,13,14,15,16] follows (iz [0,0,2,0,14,30,0,64,0,448,960,0,2048,8128,16320,32767,65535] (by kernel_rfl)) ?_;refine ab 4 rfl (aQ ah rfl rfl rfl rfl rfl (fV hS.q i aT) (by rw[Int.toNat_natCast];exact gI aT) (by omega) (by omega) fun _=> ?_);refine ab 3 rfl (aQ ah rfl rfl rfl rfl rfl (hS.q.hd) (by rw[Int.toNat_natCast];exact kA (rg:=G.rg) (W:=_) cS) (by omega) (by omega) fun _=> ?_);refine ab 1 rfl (cV rfl rfl ⟨by omega,by omega⟩ (ck (vs:=[.bool t4.f,.slice t4.A1 t4.m1 t4.c1,.slice t4.A2 t4.m2 t4.c2]) ah rfl rfl rfl rfl (dS sI) rfl (by decide) (by rw[show ((W:Int)-1).toNat=W-1 by omega];exact oQ) (by omega) (by omega) fun _=> ?_));obtain⟨ti,ak,al⟩:=aY;refine cQ (.inr rfl) ah rfl rfl rfl (by omega) (by omega) (hx) rfl (by show 0+W*3≤xs.length;omega) ak al (fun _=>rfl) rfl rfl rfl fun _=> ?_;refine aw ?_;rw[oj,Int.toNat_natCast];have kj:=hS.vR (.refl _ _) hC uh (show bZ _ [_,_,_] _ from NL)
   refine aj [2,3,4,7,28,29] rfl ?_;refine aB rfl (aG rfl rfl ⟨by omega,by omega⟩ (ab 1 rfl (aw ?_)));exact⟨i+1,by omega,ar,kj,by omega,fun q hq=>by rw[a6 _ _ (hS.zne hq)];exact wh q hq⟩
  have aT:m≤i:=by simpa using hb
  obtain rfl:i=m:=by omega
  have CD:Rd H3 (some ⟨z,0,none⟩) xs:=dS hx;have hE:kX W (iG M B (W-1) i) H3 xs:=zV _ _ _ (bE _ _) hC;have dW:Heap.le (rem H G.gs) H3:=hS.le.trans (bE _ _)
  have Tm:Heap.le H H3:=fun q en hq=>by
   by_cases hm:q∈G.gs
   ·exact⟨en,by rw[wh q hm];exact hq,.refl _⟩
   ·exact dW q en (by rw[bM hm];exact hq)
  have rY:=fun j=>cK j i (Nat.le_refl _);refine aV (aj [3,7] rfl ?_);refine ag (ab 3 rfl (gF Tryz.underlying26 bY rfl rfl rfl (by omega) (by omega) (by omega) (by omega) ?_));intro gx pa;have sP:=IL (P:=bZ) (e:=31) (sz:=3) (zs:=[.bool false,.slice none 0 0,.slice none 0 0]) (z:=0) (k:=(p.free.length:Int)) (c:=p.free.length) pa rfl (Int.toNat_natCast _) (by unfold maxLen;omega);rw[Int.toNat_natCast]at sP⊢;refine ab 1 rfl (ae [3,7,10] ?_);refine ag (ab 4 rfl (ae [3,7,10,11] ?_));refine ao (ag (ab 4 rfl (ae [3,7,10,11,58,59] ?_)));refine aF (fZ (fun(j:Nat)(w:Value)(ws:List Value)=>p.free.length-j) (fun(j:Nat)(w:Value)(ws:List Value)=>put (put (put (put (put (put (emp) 3 (.box [.slice Af p.free.length cf,.slice Ar p.rows.length cr])) 7 (.val (.slice (some ⟨z,0,none⟩) W W))) 10 (.val (w))) 11 (.val (.int .i64 (p.mi j:Int)))) 58 (.val (.int .i64 (p.free.length:Int)))) 59 (.val (.int .i64 (j:Int)))) (fun(j:Nat)(w:Value)(ws:List Value) H'=>ea bZ 31 3 H3 H' w (aK (jP p (iG M B (W-1) i)) j) ws∧j≤p.free.length) 0 _ _ (⟨sP,Nat.zero_le _⟩) (by repeat (first | exact iL _ | refine du rfl ?_ | refine du (ja (by first | omega | (simp;done) | rfl)) ?_)) ?_);rintro j w ws H5 ⟨hG,hj⟩
  obtain⟨A5,c5,e5⟩:=hG.form;rw[bg]at e5;subst e5;refine ag (ab 1 rfl (ae [3,7,10,11,58,59,60] ?_));refine ao (aC rfl (fun hb=> ?_) (fun hb=> ?_))
  ·
   have fL:j<p.free.length:=by simpa using hb
   obtain⟨t6,zc,qJ⟩:=mm hE (show j<W by omega);obtain⟨uf,pf,jr⟩:=jl j _ (List.getElem?_eq_getElem fL);have jr: [uf] = [Value.bool p.free[j]]:=jr
   cases jr
   have nK:p.lp.free j=p.free[j]:=Prg.Bk (List.getElem?_eq_getElem fL);have vw:=rY j;refine aA (aj [3,7,10,11,58,59] rfl ?_);refine ao (aF (ag (ab 2 rfl (ae [3,7,10,11,12,58,59] ?_))));refine ag (ab 2 rfl (ck (vs:=[.bool t6.f,.slice t6.A1 t6.m1 t6.c1,.slice t6.A2 t6.m2 t6.c2]) ah rfl rfl rfl rfl (CD.le hG.le) rfl (by decide) (by rw[Int.toNat_natCast];exact qJ) (by omega) (by omega) fun _=> ?_));refine bt bY rfl ?_;obtain⟨ti,ak,al⟩:=aY;refine aH (.inl ⟨rfl,rfl⟩) rfl rfl rfl ak al rfl rfl rfl (ae [3,7,10,11,12,13,58,59] ?_);refine AJ (fun(t:RC)(a:Nat)=>put (put (put (put (put (put (put (emp) 3 (.box [.slice Af p.free.length cf,.slice Ar p.rows.length cr])) 7 (.val (.slice (some ⟨z,0,none⟩) W W))) 10 (.val (.slice A5 j c5))) 11 (.val (.int .i64 (a:Int)))) 13 (.box [.bool t.f,.slice t.A1 t.m1 t.c1,.slice t.A2 t.m2 t.c2])) 58 (.val (.int .i64 (p.free.length:Int)))) 59 (.val (.int .i64 (j:Int)))) (fun(t:RC)(a:Nat) H'=>ea bZ 31 3 H3 H' (.slice A5 j c5) (aK (jP p (iG M B (W-1) i)) j) ws∧a=p.mi (j+1)∧bJ (rem H' (az (.slice A5 j c5))) t.v (jP p (iG M B (W-1) i) j)) ?_ ?_
   ·
    refine ag (ab 3 rfl (aQ ah rfl rfl rfl rfl rfl (jk.le (dW.trans hG.le)) (by rw[Int.toNat_natCast];exact pf) (by omega) (by omega) fun _=> ?_));refine ae [3,7,10,11,13,58,59,70] ?_;refine aC rfl (fun hb=> ?_) (fun hb=> ?_)
    ·
     have fB:p.lp.free j=true:=by rw[nK];simpa using hb
     have xT:p.mi j<W:=Nat.lt_of_lt_of_le (vN fL fB) sM;obtain⟨t7,sE,sG⟩:=mm hE xT;have Tp:=rY (p.mi j);refine bO .bL [0,1,2,3,4,5,6] follows (by kernel_rfl) ?_;refine ab 3 rfl (ck (vs:=[.bool t7.f,.slice t7.A1 t7.m1 t7.c1,.slice t7.A2 t7.m2 t7.c2]) ah rfl rfl rfl rfl (CD.le hG.le) rfl (by decide) (by rw[Int.toNat_natCast];exact sG) (by omega) (by omega) fun _=> ?_);refine bm rfl rfl (hG.call (Ej (N:=N1) ((bJ.raw (zc.le hG.base)).mono vw) ((bJ.raw (sE.le hG.base)).mono Tp) (by omega)).rc) (fun _ _ h=>h.le fun _ _ h=>h.1) ?_;rintro _ H8 ui;have gn:=hG.kV dY ui fun _ _ h=>h.1;obtain⟨⟨_,t8,rfl,fo⟩,_⟩:=ui;obtain⟨ti,ak,al⟩:=aY;refine aH (.inl ⟨rfl,rfl⟩) rfl rfl rfl ak al rfl rfl rfl (ae [3,7,10,11,13,58,59] ?_);refine aB rfl (ab 1 rfl (aG rfl rfl ⟨by omega,by omega⟩ (ab 1 rfl (aw ?_))));exact⟨t8,p.mi j+1,ar,gn,by rw[vO,if_pos fB],by unfold jP;rw[if_pos fB];exact fo⟩
    have fB:¬p.lp.free j=true:=by rw[nK];simpa using hb
    refine aA ?_;exact⟨t6,p.mi j,ar,hG,by rw[vO,if_neg fB,Nat.add_zero],by unfold jP;rw[if_neg fB];exact zc.le hG.base⟩
   rintro t a H9 ⟨ku,qR,fJ⟩;subst qR;refine aB rfl (ab 2 rfl (cW Tryz.underlying26 bY rfl rfl rfl rfl rfl rfl rfl ?_));intro gb bx;have Jc:=ku.ins dY (whole (cG [.agg #[.bool t.f,.slice t.A1 t.m1 t.c1,.slice t.A2 t.m2 t.c2]]) 31) bx;refine dR Tryz.underlying26 bY rfl rfl Jc.own (dD _ _ _ _ _ _) rfl (Cl _ _ _ _ _ _ _) (by rw[bg];omega) (by rw[bg];omega) ?_;intro W9 ks To;have ku:=Jc.append dY (k:=[jP p (iG M B (W-1) i) j]) (by simp) To (iP (dY _ _ _ _ (qB _ (Heap.bB _ bx)) (show bZ _ [_,_,_] _ from fJ)) rfl);refine ab 1 rfl (aw (aj [3,7,10,11,58,59] rfl ?_));refine aB rfl (aG rfl rfl ⟨by omega,by omega⟩ (ab 1 rfl (aw ?_)));exact⟨j+1,_,_,by omega,ar,by rw[xg];exact ku,by omega⟩
  have fL:p.free.length≤j:=by simpa using hb
  obtain rfl:j=p.free.length:=by omega
  refine aV (aj [10] rfl ?_);refine ag (ab 2 rfl (ae [6] ?_));refine aD ⟨.inr rfl,_,.tmp rfl (.nil),?_⟩;exact⟨Tm.trans hG.le,hG.sl dY⟩
end Go.au
namespace Go.au
open Go.Proofs Num Lp
section
variable {p:Prg} {c:List Rat} {M:Nat→Nat→Rat} {B:Nat→Nat} {T:aq} {L:Nat}
theorem akP{i:Nat}(hi:i<p.lp.m):pn p (p.unit i)=if p.u≤p.unit i then 1 else 0:=by
 show aq.jB _ _ _=_
 unfold aq.jB
 by_cases k:p.u≤p.unit i
 ·rw[if_pos k,if_pos ⟨k,nX p hi⟩]
 ·rw[if_neg k,if_neg (fun k'=>k k'.1)]
theorem abp(a8:p.Ok)(hf:Fits p c L){i j:Nat}(hi:i<p.lp.m)(hj:j≤p.w):aO (dL p i j)≤L:=by
 rw[S6 a8.valid hi hj];exact hf.tab i hi _
theorem akQ(a8:p.Ok)(hf:Fits p c L){i j:Nat}(hi:i≤p.lp.m):aO (ra p (dL p) j i)≤2*L:=by
 have h1:=hf.one
 unfold ra
 by_cases hc:j<p.u∨j=p.w
 ·have hj:j≤p.w:=by have:=fj p;omega
  rw[if_pos hc]
  have e: -bo i (fun q=>if p.u≤p.unit q then dL p q j else 0)=gK (p5 p.dZ (au.pn p)) (au.pn p) i (p.pi j):=by
   have hs:bo i (fun q=>au.pn p ((p5 p.dZ (au.pn p)).B q)*(p5 p.dZ (au.pn p)).A q (p.pi j))=bo i (fun q=>if p.u≤p.unit q then dL p q j else 0):=eK fun q hq=>by
    show au.pn p (p.unit q)*p.dZ.A q (p.pi j)=_
    rw[akP (by omega),S6 a8.valid (by omega) hj]
    split <;> grind
   unfold gK
   rw[hs]
   rcases hc with h1 | h2
   ·have h2:=fj p
    have h3:=zM h1
    have e:au.pn p (p.pi j)=0:=aq.P0 h3
    rw[if_neg (by show ¬p.pi j=p.w;omega),e];grind
   ·rw[h2,if_pos (show p.pi p.w=(p5 p.dZ (au.pn p)).n from CB)];grind
  rw[e]
  exact hf.Rp i hi _ (Nh hj)
 ·rw[if_neg hc];exact Nat.le_trans Ns (by omega)
theorem ml.sz(hf:Fits p c L)(h:ml p T):∀j,j<p.w+1→aO (T.c j)≤L∧∀i,i<p.lp.m→aO (T.A i j)≤L:=fun j hj=>by
 obtain⟨S,hI,hT⟩:=h
 have hS:=hf.B7 S hI
 have hn:=hT.ew
 have hp:=Nh (p:=p) (x:=j) (by omega)
 exact⟨by rw[hT.ec j (by omega)];exact hS.c _ (by omega),fun i hi=>by
  have:i<S.m:=by rw[hI.rows.m];exact hi
  rw[hT.eA i this j (by omega)];exact hS.A i this _ (by omega)⟩
theorem og.sz(hf:Fits p c L)(h:og p c T):∀j,j<p.w+1→aO (T.c j)≤L∧∀i,i<p.lp.m→aO (T.A i j)≤L:=fun j hj=>by
 obtain⟨S,hI,hT⟩:=h
 have hS:=hf.oE S hI.1
 have hn:=hT.ew
 have hp:=Nh (p:=p) (x:=j) (by omega)
 exact⟨by rw[hT.ec j (by omega)];exact hS.c _ (by omega),fun i hi=>by
  have:i<S.m:=by rw[hI.1.rows.m];exact hi
  rw[hT.eA i this j (by omega)];exact hS.A i this _ (by omega)⟩
theorem iV.sz{k:Nat}(hf:Fits p c L)(h:iV p k T):∀j,j<p.w+1→∀i,i<p.lp.m→aO (T.A i j)≤L:=fun j hj=>by
 obtain⟨S,hI,hT⟩:=h
 exact(ml.sz hf ⟨S,hI.1,hT⟩ j hj).2
theorem akR(hf:Fits p c L)(h:iV p p.lp.m T)(hr:gT M B T p.lp.m (p.w+1)){i j:Nat}(hi:i≤p.lp.m)(hj:j<p.w+1):aO (lK M B (eZ p (fn c) 1 p.lp.n) i j)≤2*L:=by
 obtain⟨S,hI,hT⟩:=h
 have hm:S.m=p.lp.m:=hI.1.rows.m
 have hW:=hT.wf hI.1.wf
 have hn:=hT.en.trans hT.ew
 have hj:j≤p.w:=by omega
 have e:lK M B (eZ p (fn c) 1 p.lp.n) i j=gK S (kt p c) i (p.pi j):=by
  have hu:∀i k,i<p.lp.m→k<p.lp.m→M k (B i)=if k=i then 1 else 0:=fun i k hi hk=>by
   have h1:=hW.lt i (by rw[hr.em];exact hi)
   rw[hr.eB i hi,hr.eA k hk _ (by omega)]
   exact hW.unit i k (by rw[hr.em];exact hi) (by rw[hr.em];exact hk)
  rw[aaH hu _ hi]
  unfold gK
  have e1:eZ p (fn c) 1 p.lp.n j=if p.pi j=S.n then 0 else kt p c (p.pi j):=by
   rw[I8]
   by_cases e:p.pi j=S.n
   ·rw[if_pos e]
    have e':p.pi j=p.w:=e.trans hT.ew
    have h1:=HR (p:=p) (c:=c)
    rw[e'];exact h1
   ·rw[if_neg e]
  rw[e1]
  congr 1
  refine eK fun i' fX=> ?_
  have h1:=hT.eB i' (by omega)
  rw[hr.eB i' (by omega),I8,hr.eA i' (by omega) j (by omega),hT.eA i' (by omega) j hj,h1.1]
 rw[e]
 have:=Nh hj
 exact hf.Rq S hI.1 i (by omega) _ (by rw[hT.ew];exact this)
end
theorem akS{W k:Nat}{K:Heap}{xs vs:List Value}{f:Nat→Rat}{q:Rat}(h:lL W f (k+1) K xs)(hk:k<W)(hv:bZ K vs q):lL W (bV f k q) (k+1) K (aL xs (k*3) vs):=by
 have h1:(fill (aK f W) (k+1)).set k (some q)=fill (aK (bV f k q) W) (k+1):=by
  have hl:k<(fill (aK f W) (k+1)).length:=by rw[ny (by rw[bg];omega),bg];exact hk
  apply List.ext_getElem?
  intro i
  rw[List.getElem?_set]
  by_cases e:k=i
  ·subst e
   rw[if_pos rfl,if_pos hl,xY (dJ hk) (Nat.lt_succ_self k),jE]
  ·rw[if_neg e]
   by_cases hi:i<k+1
   ·rw[xY (dJ (show i<W by omega)) hi,xY (dJ (show i<W by omega)) hi,eF (fun h=>e h.symm)]
   ·by_cases hiW:i<W
    ·have hn:∀g:Nat→Rat,(fill (aK g W) (k+1))[i]? = some none:=fun g=>by
      unfold fill
      rw[List.getElem?_append_right (by rw[List.length_map,List.length_take,bg];omega),List.getElem?_replicate,if_pos (by rw[List.length_map,List.length_take,bg];omega)]
     rw[hn,hn]
    ·rw[List.getElem?_eq_none (by rw[ny (by rw[bg];omega),bg];omega),List.getElem?_eq_none (by rw[ny (by rw[bg];omega),bg];omega)]
 show bC _ _ _ _
 rw[←h1]
 exact h.set (by rw[ny (by rw[bg];omega),bg];exact hk) (show ib bZ _ vs (some q)from hv) (iF.len _ _ _ hv)
theorem akT{W k:Nat}{K:Heap}{xs:List Value}{f g:Nat→Rat}(h:lL W f k K xs)(he:∀j,j<k→g j=f j)(hk:k≤W):lL W g k K xs:=by
 have e:fill (aK g W) k=fill (aK f W) k:=by
  unfold fill
  rw[bg,bg]
  congr 2
  apply List.ext_getElem?
  intro i
  rw[List.getElem?_take,List.getElem?_take]
  split
  ·rw[dJ (by omega),dJ (by omega),he i (by assumption)]
  ·rfl
 show bC _ _ _ _
 rw[e];exact h
theorem akU{W k n:Nat}{K:Heap}{xs:List Value}{f:Nat→Rat}(h:lL W f n K xs)(hk:k<n)(hn:n≤W):∃t:RC,bJ K t.v (f k)∧∀(j:Nat)(v:Value),[.bool t.f,.slice t.A1 t.m1 t.c1,.slice t.A2 t.m2 t.c2][j]? = some v→xs[k*3+j]? = some v:=by
 obtain⟨vs,_,h2,h3⟩:=h.get (xY (dJ (show k<W by omega)) hk)
 obtain⟨t,e,h4⟩:=bZ.rc (show bZ K vs (f k)from h2)
 subst e
 exact⟨t,h4,h3⟩
theorem ct.tab{H:Heap}{G:GG}{W m:Nat}{M:Nat→Nat→Rat}{B:Nat→Nat}(h:ct iF H G m W m M B):∃Ab cb,G.bv = .slice Ab m cb∧Jd H G.Ar Ab G.rg m W M B∧∀{H' t R' M' B'},ct iF H' (G.on t) R' W m M' B'→∀i,i<m→Rd H' Ab (eL B' m):=by
 obtain⟨Ab,cb,dh,fV⟩:=h.sQ
 refine⟨Ab,cb,dh,⟨h.iv,h.hd,fun i q hq=> ?_,?_⟩,fV⟩
 ·obtain⟨xs,sz,h1,h2⟩:=h.q6 hq
  exact⟨xs,dS h1,h2.mono fun vs a=>dY _ _ vs a (bE _ _)⟩
 ·by_cases hm:0<m
  ·exact fV (t:=G.top) h 0 hm
  ·obtain rfl:m=0:=by omega
   intro i v hv
   simp[eL]at hv
theorem aR.abq{N M:Nat}{H:Heap}{v:Value}{l:List Rat}(h:aR (bN N) 3 H v l)(hl:N≤M):aR (bN M) 3 H v l:=h.mono fun _ _ a=>bN.mono a hl
def akV(p:Prg)(c:List Rat)(L:Nat)(H:Heap)(v:Value)(H':Heap):Prop:=Heap.le H H'∧∃(st:Int)(t:RC)(xv:Value)(q:Rat),v = .tuple #[.int .i64 st,t.v,xv]∧vP p c st q∧bJ H' t.v q∧aO q≤L∧(st=1→∃x,aR bZ 3 H' xv x∧x.length=p.free.length∧(∀q,q∈x→aO q≤2*L+17)∧q=bK p.free.length (fn c) (fn x))
theorem JC{p:Prg}{c:List Rat}{L:Nat}{st:Int}{q:Rat}(hf:Fits p c L)(h:vP p c st q):aO q≤L:=by
 have h1:=hf.one
 rcases h with ⟨_,_,T,hI,rfl⟩ | ⟨_,_,rfl⟩ | ⟨_,_,rfl⟩
 ·rw[wP]
  have:=hI.1.rows.n
  exact(hf.oE T hI.1).c _ (by omega)
 ·exact Nat.le_trans Ns h1
 ·exact Nat.le_trans Ns h1
end Go.au
namespace Go.au
open Go.Proofs Num Lp
theorem akW{H:Heap}{p:Prg}{c:List Rat}{pv cv:Value}{N L:Nat}(a8:p.Ok)(fi:c.length=p.free.length)(hp:eH N H pv p)(hc:aR (bN N) 3 H cv c)(hN:N≤400000000)(hf:Fits p c L)(hL:L≤99999998):
 Fn Tryz.prog 13 #[pv,cv] H (akV p c L H):=by
 obtain⟨fv,gB,rfl,eI,fk⟩:=id hp
 have pQ:=HO p
 have Tt:=a8.iu
 have Tu:=a8.rows
 have aki:p.lp.m≤800:=Tu
 have aa4:p.lp.n≤400:=Tt
 have mL:=fj p
 have akj:=mc p
 have hL1:=hf.one;refine a7 (args:=[_,_]) Tryz.func13 rfl rfl Tryz.ntmps13 rfl rfl fun w0=> ?_;refine aj [0,1] rfl ?_;refine ag (bX rfl rfl (ab 1 rfl (bt bY rfl (ab 1 rfl (ae [1,2,5] ?_)))));refine ag (ab 1 rfl (aE rfl rfl (akI a8 hp hN) ?_));rintro _ H1 ⟨G,rfl,T1,oL,cH⟩;obtain⟨Ab,cb,dh,akX,fV⟩:=oL.tab;rw[dh];obtain⟨W,hW⟩:∃W,W=p.w+1:=⟨_,rfl⟩;refine ab 3 rfl (bt Kp rfl ?_);obtain⟨ti,ak,al⟩:=OV;refine aH (.inl ⟨rfl,rfl⟩) rfl rfl rfl ak al rfl rfl rfl (ab 1 rfl (ae [1,2,5,7,8] ?_));refine ag (aE rfl rfl (Fn.kq oL.ne (pX (n:=0) (by decide) (by decide))) ?_);rintro v2 H2 NM;obtain⟨t9,rfl,fJ⟩:=NM.val;rw[show ((0:Int):Rat)=0 from rfl]at fJ;have ed:=oL.kept NM.kept;have dG:=cH.trans NM.kept.le;have Uc:=dG.trans (bE _ _);refine bt bY rfl ?_;obtain⟨ti,ak,al⟩:=aY;refine aH (.inl ⟨rfl,rfl⟩) rfl rfl rfl ak al rfl rfl rfl (ae [1,2,5,7,8,9] ?_);refine ao (ag (ab 4 rfl (aE rfl rfl (akh a8 fi (hp.le Uc) (hc.le (dI N) Uc) (by omega) (akX.le NM.le) (fun i hi j hj=>abp a8 hf hi hj) (by omega)) ?_)));rintro _ H3b ⟨st,xv,b,rfl,Ud,hQ⟩
 have NN:=Uc.trans Ud;refine ab 7 rfl (ae [1,2,5,7,8,9,10,11,12] ?_);refine ag (ab 1 rfl (ae [1,2,5,7,8,9,10,11,36] ?_));refine aC rfl (fun hb=> ?_) (fun hb=> ?_)
 ·
  have hQ:=hQ (by simpa using hb);refine ao (ag (ab 2 rfl (ae [1,5,9,10,11,38] ?_)));refine aC rfl (fun hb=> ?_) (fun hb=> ?_)
  ·
   have dO:¬st=1:=by simpa using hb
   have hS:vP p c st 0:=by
    rcases hQ with ⟨h9,_⟩ | ⟨_,h9⟩
    ·exact absurd h9 dO
    ·exact h9
   refine bO .bL [0,1,2,3,4,5] follows (by kernel_rfl) ?_;refine vr 4 ?_;obtain⟨ti,ak,al⟩:=aY;refine aH (.inl ⟨rfl,rfl⟩) rfl rfl rfl ak al rfl rfl rfl (ab 1 rfl (ae [4,5,6] ?_));obtain⟨NO,yd,ye⟩:=aY;refine aD ⟨.inr rfl,_,.tmp rfl (.agg rfl Tryz.underlying31 yd ye (.tmp rfl (.nil))),?_⟩;exact⟨NN,st,t9,xv,0,rfl,hS,(fJ.le (bE _ _)).le Ud,JC hf hS,fun h9=>absurd h9 dO⟩
  ·
   have dO:st=1:=by simpa using hb
   obtain⟨x,hx,cP,hS,hxz⟩:∃x,aR bZ 3 H3b xv x∧x.length=p.free.length∧vP p c 1 (bK p.free.length (fn c) (fn x))∧∀q,q∈x→aO q≤17:=by
    rcases hQ with ⟨_,h9⟩ | ⟨h9,_⟩
    ·exact h9
    ·exact absurd dO h9
   subst dO;refine aA (aj [1,5,10,11] rfl ?_);refine ag (ab 3 rfl (aE rfl rfl (aaU (N:=400000000) ((hc.le (dI N) NN).abq hN) (hx.zE fun q hq=>Nat.le_trans (hxz q hq) (by decide)) (by omega) (by omega) (Nat.le_refl _)) ?_));rintro _ H4 ⟨dW,t4,rfl,cJ⟩;rw[fi]at cJ;refine vr 2 ?_;obtain⟨ti,ak,al⟩:=aY;refine aH (.inl ⟨rfl,rfl⟩) rfl rfl rfl ak al rfl rfl rfl (ab 1 rfl (ae [4,5,6] ?_));obtain⟨NO,yd,ye⟩:=aY;refine aD ⟨.inr rfl,_,.tmp rfl (.agg rfl Tryz.underlying31 yd ye (.tmp rfl (.nil))),?_⟩;exact⟨NN.trans dW,1,t4,xv,_,rfl,hS,cJ,JC hf hS,fun _=>⟨x,hx.le dY dW,cP,fun q hq=>Nat.le_trans (hxz q hq) (by omega),rfl⟩⟩
 ·
  obtain⟨H3,im,dt⟩:=ajQ G.gs Ud ed.ne;refine SF im ?_;clear hQ NN;have lS:=ed.kept dt;have gO:=dG.trans dt.le;have fJ:=fJ.le dt.le;rw[←hW]at lS;refine aA (aj [1,2,5,7,8,9] rfl ?_);refine ag (ab 1 rfl (aG rfl rfl ⟨by omega,by omega⟩ (ab 1 rfl (ae [1,2,5,7,8,9,13] ?_))));refine kE (fun(a:Nat)=>put (put (put (put (put (put (put (emp) 1 (.val (cv))) 2 (.box [fv,gB])) 5 (.box [.bool false,.slice none 0 0,.slice none 0 0])) 7 (.box [.slice G.Ar p.lp.m G.cr,.slice Ab p.lp.m cb])) 8 (.val (.int .i64 (p.u:Int)))) 9 (.box [.bool t9.f,.slice t9.A1 t9.m1 t9.c1,.slice t9.A2 t9.m2 t9.c2])) 13 (.val (.int .i64 (a:Int)))) (fun(a:Nat) H'=>H'=H3∧W=a) ?_ ?_
  ·
   refine ag (ab 4 rfl (ae [1,2,5,7,8,9,13,52] ?_));refine aC rfl (fun hb=> ?_) (fun hb=> ?_)
   ·
    have wz:0<p.lp.m:=by simp at hb;omega
    obtain⟨p0,Az⟩:=lS.get wz;refine aB rfl (ab 2 rfl (aQ ah rfl rfl rfl rfl rfl (lS.hd) (by show (iT G.rg _)[0]? = _;exact kA (rg:=G.rg) Az) (by omega) (by omega) fun _=> ?_));refine ab 2 rfl (aw ?_);exact⟨W,ar,rfl,rfl⟩
   have wz:p.lp.m=0:=by simp at hb;omega
   have e9:p.w=p.u:=by show aX _ _ _ p.lp.m=_;rw[wz];rfl
   refine aA ?_;exact⟨W,ar,rfl,rfl⟩
  rintro a H4 ⟨e4,rfl⟩;rw[e4];clear e4 H4;refine ag (ab 1 rfl (gF Tryz.underlying26 bY rfl rfl rfl (by omega) (by omega) (by omega) (by omega) ?_));intro z ji;rw[Int.toNat_natCast];have CN:=lS.gu.start (C:=lL W (fun _=>0) 0) (xs:=cg [.bool false,.slice none 0 0,.slice none 0 0] (W*3)) ji NH;refine ab 1 rfl (ae [1,2,5,7,8,9,13,14] ?_);refine ao (ag (ab 3 rfl (ae [1,2,5,7,8,9,13,14,61,62] ?_)));refine aF (gX (fun(k:Nat)(f:Nat→Rat)=>W-k) (fun(k:Nat)(f:Nat→Rat)=>put (put (put (put (put (put (put (put (put (put (emp) 1 (.val (cv))) 2 (.box [fv,gB])) 5 (.box [.bool false,.slice none 0 0,.slice none 0 0])) 7 (.box [.slice G.Ar p.lp.m G.cr,.slice Ab p.lp.m cb])) 8 (.val (.int .i64 (p.u:Int)))) 9 (.box [.bool t9.f,.slice t9.A1 t9.m1 t9.c1,.slice t9.A2 t9.m2 t9.c2])) 13 (.val (.int .i64 (W:Int)))) 14 (.val (.slice (some ⟨z,0,none⟩) W W))) 61 (.val (.int .i64 (W:Int)))) 62 (.val (.int .i64 (k:Int)))) (fun(k:Nat)(f:Nat→Rat) H'=>SZ (lL W f k) (rem H3 G.gs) H' G p.lp.m W p.lp.m (dL p) p.unit (.slice none 0 0) [] z∧(∀j,j<k→f j=q3 p (dL p) j)∧k≤W) 0 (fun _=>0) (⟨CN,fun j hj=>absurd hj (Nat.not_lt_zero _),Nat.zero_le _⟩) ar ?_);rintro k f H5 ⟨hS,NB,hk⟩;obtain⟨xs,hx,hC⟩:=hS.row;have cP:=Jy hC hk;refine ag (vr 1 ?_)
  refine ae [1,2,5,7,8,9,13,14,61,62,63] ?_;refine ao (aC rfl (fun hb=> ?_) (fun hb=> ?_))
  ·
   have fm:k<W:=by simpa using hb
   have uV:=hS.set (.refl _ _) (NF (f:=bV f k 0) (akT hC (fun j hj=>pz (by omega)) hk) fm (by rw[qX];exact(show bZ _ [_,_,_] _ from fJ.le hS.le)));refine aA (aj [1,2,5,7,8,9,13,14,61,62] rfl ?_);refine ao (aF (ag (ab 2 rfl (ae [1,2,5,7,8,9,13,14,15,61,62] ?_))));refine ag (vr 3 ?_);obtain⟨ti,ak,al⟩:=aY;refine cQ (.inl rfl) ah rfl rfl rfl (by omega) (by omega) (hx) rfl (by show 0+W*3≤xs.length;omega) ak al (fun _=>rfl) rfl rfl rfl fun _=> ?_;refine ae [1,2,5,7,8,9,13,14,15,61,62] ?_;rw[oj,Int.toNat_natCast];refine ag (ab 4 rfl (ae [1,2,5,7,8,9,13,14,15,61,62,71,72] ?_));refine aF (gX (fun(i:Nat)(f2:Nat→Rat)=>p.lp.m-i) (fun(i:Nat)(f2:Nat→Rat)=>put (put (put (put (put (put (put (put (put (put (put (put (put (emp) 1 (.val (cv))) 2 (.box [fv,gB])) 5 (.box [.bool false,.slice none 0 0,.slice none 0 0])) 7 (.box [.slice G.Ar p.lp.m G.cr,.slice Ab p.lp.m cb])) 8 (.val (.int .i64 (p.u:Int)))) 9 (.box [.bool t9.f,.slice t9.A1 t9.m1 t9.c1,.slice t9.A2 t9.m2 t9.c2])) 13 (.val (.int .i64 (W:Int)))) 14 (.val (.slice (some ⟨z,0,none⟩) W W))) 15 (.val (.int .i64 (k:Int)))) 61 (.val (.int .i64 (W:Int)))) 62 (.val (.int .i64 (k:Int)))) 71 (.val (.int .i64 (p.lp.m:Int)))) 72 (.val (.int .i64 (i:Int)))) (fun(i:Nat)(f2:Nat→Rat) H'=>SZ (lL W f2 (k+1)) (rem H3 G.gs) H' G p.lp.m W p.lp.m (dL p) p.unit (.slice none 0 0) [] z∧(∀j,j<k→f2 j=q3 p (dL p) j)∧f2 k=ra p (dL p) k i∧i≤p.lp.m) 0 (bV f k 0) (⟨uV,fun j hj=>by rw[pz (by omega)];exact NB j hj,by rw[qX,aaY],Nat.zero_le _⟩) ar ?_)
   rintro i f2 H6 ⟨hV,Ue,zX,hi⟩;obtain⟨ws,sN,nN⟩:=hV.row;have pQ:=Jy nN (show k+1≤W by omega);refine ag (ab 1 rfl (ae [1,2,5,7,8,9,13,14,15,61,62,71,72,73] ?_));refine ao (aC rfl (fun hb=> ?_) (fun hb=> ?_))
   ·
    have aT:i<p.lp.m:=by simpa using hb
    have xZ:=fV (t:=z::(az (.slice none 0 0)++G.top)) (by rw[←hW];exact hV.q) i aT;refine aA (aj [1,2,5,7,8,9,13,14,15,61,62,71,72] rfl ?_);refine ao (aF (ag (ab 2 rfl (ae [1,2,5,7,8,9,13,14,15,16,61,62,71,72] ?_))));refine kE (fun(b0:Bool)=>put (put (put (put (put (put (put (put (put (put (put (put (put (put (put (emp) 1 (.val (cv))) 2 (.box [fv,gB])) 5 (.box [.bool false,.slice none 0 0,.slice none 0 0])) 7 (.box [.slice G.Ar p.lp.m G.cr,.slice Ab p.lp.m cb])) 8 (.val (.int .i64 (p.u:Int)))) 9 (.box [.bool t9.f,.slice t9.A1 t9.m1 t9.c1,.slice t9.A2 t9.m2 t9.c2])) 13 (.val (.int .i64 (W:Int)))) 14 (.val (.slice (some ⟨z,0,none⟩) W W))) 15 (.val (.int .i64 (k:Int)))) 16 (.val (.int .i64 (i:Int)))) 61 (.val (.int .i64 (W:Int)))) 62 (.val (.int .i64 (k:Int)))) 71 (.val (.int .i64 (p.lp.m:Int)))) 72 (.val (.int .i64 (i:Int)))) 92 (.val (.bool b0))) (fun(b0:Bool) H'=>H'=H6∧(b0=true↔p.u≤p.unit i∧(k<p.u∨k=p.w))) ?_ ?_
    ·
     by_cases h1:p.u≤p.unit i
     ·
      skip
      by_cases h2:k<p.u
      ·
       skip
       refine aB rfl (ab 3 rfl (aQ ah rfl rfl rfl rfl rfl (xZ) (by rw[Int.toNat_natCast];exact gI aT) (by omega) (by omega) fun _=> ?_));refine ab 1 rfl (aI true rfl rfl (rH (by omega)) (ab 3 rfl (aI true rfl rfl (jK (by omega)) (ab 7 rfl (aw ?_)))));exact⟨_,ar,rfl,by simp[h1,h2]⟩
      skip
      by_cases h3:k=p.w
      ·
       skip
       refine aB rfl (ab 3 rfl (aQ ah rfl rfl rfl rfl rfl (xZ) (by rw[Int.toNat_natCast];exact gI aT) (by omega) (by omega) fun _=> ?_));refine ab 1 rfl (aI true rfl rfl (rH (by omega)) (ab 3 rfl (aI false rfl rfl (ik (by omega)) (ab 3 rfl (cV rfl rfl ⟨by omega,by omega⟩ (aI true rfl rfl (jY (by omega)) (ab 2 rfl (aw ?_))))))));exact⟨_,ar,rfl,by simp[h1,h3]⟩
      skip
      refine aB rfl (ab 3 rfl (aQ ah rfl rfl rfl rfl rfl (xZ) (by rw[Int.toNat_natCast];exact gI aT) (by omega) (by omega) fun _=> ?_));refine ab 1 rfl (aI true rfl rfl (rH (by omega)) (ab 3 rfl (aI false rfl rfl (ik (by omega)) (ab 3 rfl (cV rfl rfl ⟨by omega,by omega⟩ (aI false rfl rfl (ln (by omega)) (ab 2 rfl (aw ?_))))))));exact⟨_,ar,rfl,by simp[h1,h2,h3]⟩
     skip
     refine aB rfl (ab 3 rfl (aQ ah rfl rfl rfl rfl rfl (xZ) (by rw[Int.toNat_natCast];exact gI aT) (by omega) (by omega) fun _=> ?_));refine ab 1 rfl (aI false rfl rfl (AK (by omega)) (ab 11 rfl (aw ?_)));exact⟨_,ar,rfl,by simp[h1]⟩
    rintro b0 H9 ⟨e9,iJ⟩;rw[e9];clear e9 H9;refine aC rfl (fun hb=> ?_) (fun hb=> ?_)
    ·
     have TE:=iJ.1 (by simpa using hb);obtain⟨pi,cS⟩:=lS.get aT;obtain⟨xi8,si8,TF,TH⟩:=hV.q.q6 (G:=G.on _) cS;obtain⟨t5,wZ,mM⟩:=akU nN (Nat.lt_succ_self k) (show k+1≤W by omega);obtain⟨t6,zc,qJ⟩:=mm TH fm
     have vv:aO (f2 k)≤2*L:=by rw[zX];exact akQ a8 hf (by omega)
     have vw:aO (dL p i k)≤L:=abp a8 hf aT (by omega);refine eu .gD [0,1,2,3,4,5,6,7,8,9,10,11,12,13,14,15,16] follows (iz [0,0,0,0,12,28,0,64,0,448,960,0,4032,8128,16380,32767,65535] (by kernel_rfl)) ?_;refine ab 4 rfl (ck (vs:=[.bool t5.f,.slice t5.A1 t5.m1 t5.c1,.slice t5.A2 t5.m2 t5.c2]) ah rfl rfl rfl rfl (dS sN) rfl (by decide) (by rw[Int.toNat_natCast];exact mM) (by omega) (by omega) fun _=> ?_);refine ab 3 rfl (aQ ah rfl rfl rfl rfl rfl (hV.q.hd) (by rw[Int.toNat_natCast];exact kA (rg:=G.rg) (W:=_) cS) (by omega) (by omega) fun _=> ?_);refine ab 1 rfl (ck (vs:=[.bool t6.f,.slice t6.A1 t6.m1 t6.c1,.slice t6.A2 t6.m2 t6.c2]) ah rfl rfl rfl rfl (dS TF) rfl (by decide) (by rw[Int.toNat_natCast];exact qJ) (by omega) (by omega) fun _=> ?_);refine bm rfl rfl (Fn.kq hV.q.ne (Ej (N:=2*L) ((bJ.raw wZ).mono vv) ((bJ.raw zc).mono (by omega)) (by omega))) (fun _ _ h=>by first | exact h.le | exact h.1) ?_;rintro v8 H8 gp;obtain⟨t8,rfl,fo⟩:=gp.val;have rb:=(gp.kept.same z SZ.mU).trans sN;obtain⟨ti,ak,al⟩:=aY;refine cQ (.inr rfl) ah rfl rfl rfl (by omega) (by omega) (rb) rfl (by show 0+W*3≤ws.length;omega) ak al (fun _=>rfl) rfl rfl rfl fun _=> ?_;refine aw ?_;rw[oj,Int.toNat_natCast];have x8:=hV.set gp.kept (akS (TY _ _ _ gp.kept.le nN) fm (show bZ _ [_,_,_] _ from fo))
     refine aj [1,2,5,7,8,9,13,14,15,61,62,71,72] rfl ?_;refine aB rfl (aG rfl rfl ⟨by omega,by omega⟩ (ab 1 rfl (aw ?_)));exact⟨i+1,bV f2 k (f2 k-dL p i k),by omega,ar,x8,fun j hj=>by rw[pz (by omega)];exact Ue j hj,by rw[qX,zX,aaZ TE],by omega⟩
    have TI:¬(p.u≤p.unit i∧(k<p.u∨k=p.w)):=fun h9=>by have:=iJ.2 h9;simp[this]at hb
    refine aA (aj [1,2,5,7,8,9,13,14,15,61,62,71,72] rfl ?_);refine aB rfl (aG rfl rfl ⟨by omega,by omega⟩ (ab 1 rfl (aw ?_)));exact⟨i+1,f2,by omega,ar,hV,Ue,by rw[zX,aa0 TI],by omega⟩
   have aT:p.lp.m≤i:=by simpa using hb
   obtain rfl:i=p.lp.m:=by omega
   refine aV (aj [1,2,5,7,8,9,13,14,61,62] rfl ?_);refine aB rfl (aG rfl rfl ⟨by omega,by omega⟩ (ab 1 rfl (aw ?_)));rw[aa1]at zX
   exact⟨k+1,f2,by omega,ar,hV,fun j hj=>by
    by_cases ej:j=k
    ·subst ej;exact zX
    ·exact Ue j (by omega),by omega⟩
  have fm:W≤k:=by simpa using hb
  have ek:k=W:=by omega
  rw[ek]at hS NB;have CO:=hS.to (C':=kX W f) fun _ h=>NG h;refine aV (aj [1,2,5,7,8,9,13,14] rfl ?_);refine ag (ab 3 rfl (cW Tryz.underlying40 rE rfl rfl rfl rfl rfl rfl rfl ?_));intro gb bx;have hS7:=CO.fresh zV (e:=whole [.slice (some ⟨z,0,none⟩) W W] 26) bx;refine dR Tryz.underlying40 rE rfl rfl hS7.q.rows (dD _ _ _ _ _ _) rfl (BZ _ _ _) (by omega) (by omega) ?_;intro v8 H8 kL;obtain⟨A9,c9,rfl⟩:=kL.own.form;have qY:=hS7.more (Nw kL);obtain⟨tK,ix⟩:=qY.drop;obtain⟨M9,ya⟩:∃M9,M9=(fun i=>if i=p.lp.m then f else dL p i):=⟨_,rfl⟩;rw[←ya]at tK
  have hT9:ml p (xV M9 p.unit p.lp.m p.w):=by
   refine aaG a8 (fun i hi j hj=>by rw[ya];show (if i=p.lp.m then f else dL p i) j=_;rw[if_neg (by omega)]) (fun j hj=> ?_)
   have e7:q3 p M9 j=q3 p (dL p) j:=by
    unfold q3
    split
    ·
     refine congrArg (fun x:Rat=> -x) (eK fun i hi=> ?_);rw[ya]
     show (if _ then(if i=p.lp.m then f else dL p i) j else 0)=_
     rw[if_neg (show ¬i=p.lp.m by omega)]
    ·rfl
   rw[e7,←NB j (by omega),ya]
   show (if p.lp.m=p.lp.m then f else _) j=_
   rw[if_pos rfl]
  obtain⟨G9,rfl,rfl,Jh,tK,ix⟩:∃G9:GG,G9.Ar=A9∧G9.cr=c9∧G9.bv = .slice Ab p.lp.m cb∧ct iF H8 G9 (p.lp.m+1) (p.w+1) p.lp.m M9 p.unit∧Heap.le (rem H3 G.gs) (rem H8 G9.gs):=⟨G.more G.top z W A9 c9 p.lp.m,rfl,rfl,dh,by rw[←hW];exact tK,ix⟩;have TJ:∀i,i<p.lp.m→p.unit i<p.w+1:=fun i hi=>Nat.lt_succ_of_lt (nX p hi);refine vr 1 ?_;obtain⟨ti,ak,al⟩:=FW;refine aH (.inr rfl) rfl rfl rfl ak al rfl rfl rfl (ae [1,2,5,7,8,9,13] ?_);refine ag (vr 2 ?_);have hI:=aaT (u:=p.u) tK (by omega) (by omega) (by omega) (fun T r s=>ml.step) hT9 Np hT9.acc TJ (fun T hT=>hT.sz hf) (by omega);rw[Jh]at hI;refine aE rfl rfl hI ?_;rintro _ vt ⟨E4,Ny,TK,T,rfl,tL,EE,hT,iU,TM,pV,re⟩;have zS:=ix.trans EE
  have Jq:∀j,j<p.u→0≤T.c j:=fun j hj=>by
   cases TK with
   | true=>rw[←iU.ec j (by omega)];exact pV rfl j hj
   | false=>
    obtain⟨s,k1,k2,k3⟩:=re rfl;exact(hT.aaE k1 (by rw[←iU.ec s (by omega)];exact k2) fun i hi=>by rw[iU.em]at hi;rw[←iU.eA i hi s (by omega)];exact k3 i hi).elim
  obtain⟨pm,sL⟩:=tL.get (Nat.lt_succ_self p.lp.m);obtain⟨xm,sm,Cy,Cz⟩:=tL.q6 sL;obtain⟨t10,IA,My⟩:=mm Cz (show p.w<p.w+1 by omega)
  have anK:aO (E4 p.lp.m p.w)≤L:=by rw[iU.ec _ (Nat.lt_succ_self _)];exact(hT.sz hf _ (Nat.lt_succ_self _)).1
  refine ae [1,2,5,7,8,9,13] ?_;refine ao (ag (ab 5 rfl (cV rfl rfl ⟨by omega,by omega⟩ (aQ ah rfl rfl rfl rfl rfl (tL.hd) (by rw[show (((p.lp.m+1:Nat):Int)-1).toNat=p.lp.m by omega];exact kA (rg:=G9.rg) (W:=_) sL) (by omega) (by omega) fun _=> ?_))));refine ab 1 rfl (cV rfl rfl ⟨by omega,by omega⟩ (ck (vs:=[.bool t10.f,.slice t10.A1 t10.m1 t10.c1,.slice t10.A2 t10.m2 t10.c2]) ah rfl rfl rfl rfl (dS Cy) rfl (by decide) (by rw[show ((W:Int)-1).toNat=p.w by omega];exact My) (by omega) (by omega) fun _=> ?_));refine aE rfl rfl (Fn.l0 tL.ne (xB (bJ.raw IA) (by omega))) ?_;rintro v11 ks ⟨Cg,R8,rfl⟩;have Ek:=tL.kept Cg;have zS:=zS.trans Cg.le;refine ab 1 rfl (ae [1,2,5,7,8,9,13,133] ?_);refine aC rfl (fun hb=> ?_) (fun hb=> ?_)
  ·
   have CG:p.lp.rQ:=hT.inf a8 Jq (by rw[←iU.ec _ (Nat.lt_succ_self _)];exact fun h9=>by rw[h9]at hb;simp[gZ]at hb);have hS:vP p c 2 0:= .inr (.inl ⟨rfl,CG,rfl⟩);have hlE:=zS.trans (bE _ _);refine bO .bL [0,1,2,3] follows (by kernel_rfl) ?_;refine vr 2 ?_;obtain⟨ti,ak,al⟩:=aY;refine aH (.inl ⟨rfl,rfl⟩) rfl rfl rfl ak al rfl rfl rfl (ab 1 rfl (ae [4,5,6] ?_));obtain⟨NO,yd,ye⟩:=aY;refine aD ⟨.inr rfl,_,.tmp rfl (.agg rfl Tryz.underlying31 yd ye (.tmp rfl (.nil))),?_⟩;exact⟨gO.trans hlE,2,t9,.slice none 0 0,0,rfl,hS,fJ.le hlE,JC hf hS,fun h9=>absurd h9 (by decide)⟩
  have h0:E4 p.lp.m p.w=0:=tH (by simpa using hb);have TN:iV p 0 T:=hT.clean Jq (by rw[←iU.ec _ (Nat.lt_succ_self _)];exact h0);obtain⟨dK,kg,mO,nE,_,_,anL⟩:=Ek.less;have sR:=zS.trans nE;refine aA (aj [1,2,5,7,8,9,13] rfl ?_);refine ag (ab 5 rfl (cV rfl rfl ⟨by omega,by omega⟩ ?_));rw[show ((p.lp.m+1:Nat):Int)-1=((p.lp.m:Nat):Int) by omega];refine tk ah rfl rfl (.inl ⟨rfl,rfl⟩) (.inr ⟨_,_,rfl,rfl⟩) (by omega) (by omega) ?_;rw[AM,Nat.sub_zero,Nat.sub_zero];refine vr 1 ?_;obtain⟨ti,ak,al⟩:=FW;refine aH (.inr rfl) rfl rfl rfl ak al rfl rfl rfl (ae [1,2,5,7,8,9,13] ?_);refine SF kg ?_;obtain⟨ic,eA,eC,NP,mO,sR⟩:∃ic:GG,ic.Ar=G9.Ar∧ic.cr=G9.cr∧ic.bv = .slice Ab p.lp.m cb∧ct iF dK ic p.lp.m (p.w+1) p.lp.m E4 Ny∧Heap.le (rem H3 G.gs) (rem dK ic.gs):=⟨G9.less p.lp.m,rfl,rfl,Jh,mO,sR⟩;rw[←eA,←eC];clear kg Cy Cz ix EE;obtain⟨Nz,NA,r8,BG⟩:=mO.sQ;rw[NP]at r8
  cases r8
  refine ao (ag (ab 4 rfl (ae [1,2,5,7,8,9,13,145,146] ?_)));refine aF (fZ (fun(i:Nat)(M1:Nat→Nat→Rat)(B1:Nat→Nat)=>p.lp.m-i) (fun(i:Nat)(M1:Nat→Nat→Rat)(B1:Nat→Nat)=>put (put (put (put (put (put (put (put (put (emp) 1 (.val (cv))) 2 (.box [fv,gB])) 5 (.box [.bool false,.slice none 0 0,.slice none 0 0])) 7 (.box [.slice ic.Ar p.lp.m ic.cr,.slice Ab p.lp.m cb])) 8 (.val (.int .i64 (p.u:Int)))) 9 (.box [.bool t9.f,.slice t9.A1 t9.m1 t9.c1,.slice t9.A2 t9.m2 t9.c2])) 13 (.val (.int .i64 (W:Int)))) 145 (.val (.int .i64 (p.lp.m:Int)))) 146 (.val (.int .i64 (i:Int)))) (fun(i:Nat)(M1:Nat→Nat→Rat)(B1:Nat→Nat) H'=>ct iF H' ic p.lp.m (p.w+1) p.lp.m M1 B1∧Heap.le (rem H3 G.gs) (rem H' ic.gs)∧(∀q,q<p.lp.m→B1 q<p.w+1)∧(∃T,iV p i T∧gT M1 B1 T p.lp.m (p.w+1))∧i≤p.lp.m) 0 E4 Ny (⟨mO,sR,TM,⟨T,TN,iU⟩,Nat.zero_le _⟩) ar ?_);rintro i M1 B1 ma ⟨vG,p3,zU,CH,hi⟩;refine ag (ab 1 rfl (ae [1,2,5,7,8,9,13,145,146,147] ?_));refine ao (aC rfl (fun hb=> ?_) (fun hb=> ?_))
  ·
   have aT:i<p.lp.m:=by simpa using hb
   obtain⟨pi,cS⟩:=vG.get aT
   have TP:(∃T,iV p i T∧gT M1 B1 T p.lp.m (p.w+1)∧p.u≤B1 i∧∀j,j<0→M1 i j=0)∨(B1 i<p.u∧∃T,iV p (i+1) T∧gT M1 B1 T p.lp.m (p.w+1)):=by
    obtain⟨T,k1,k2⟩:=CH
    by_cases hu:B1 i<p.u
    ·exact .inr ⟨hu,T,k1.skip (by rw[k2.em];exact aT) (.inl (by rw[←k2.eB i aT];exact hu)),k2⟩
    ·exact .inl ⟨T,k1,k2,by omega,fun j hj=>absurd hj (Nat.not_lt_zero _)⟩
   refine aA (aj [1,2,5,7,8,9,13,145,146] rfl ?_);refine ao (aF (ag (ab 2 rfl (ae [1,2,5,7,8,9,13,17,145,146] ?_))));refine ag (ab 1 rfl (ae [1,2,5,7,8,9,13,17,18,145,146] ?_));refine aF (fZ (fun(k:Nat)(M2:Nat→Nat→Rat)(B2:Nat→Nat)=>p.u-k) (fun(k:Nat)(M2:Nat→Nat→Rat)(B2:Nat→Nat)=>put (put (put (put (put (put (put (put (put (put (put (emp) 1 (.val (cv))) 2 (.box [fv,gB])) 5 (.box [.bool false,.slice none 0 0,.slice none 0 0])) 7 (.box [.slice ic.Ar p.lp.m ic.cr,.slice Ab p.lp.m cb])) 8 (.val (.int .i64 (p.u:Int)))) 9 (.box [.bool t9.f,.slice t9.A1 t9.m1 t9.c1,.slice t9.A2 t9.m2 t9.c2])) 13 (.val (.int .i64 (W:Int)))) 17 (.val (.int .i64 (i:Int)))) 18 (.val (.int .i64 (k:Int)))) 145 (.val (.int .i64 (p.lp.m:Int)))) 146 (.val (.int .i64 (i:Int)))) (fun(k:Nat)(M2:Nat→Nat→Rat)(B2:Nat→Nat) H'=>ct iF H' ic p.lp.m (p.w+1) p.lp.m M2 B2∧Heap.le (rem H3 G.gs) (rem H' ic.gs)∧(∀q,q<p.lp.m→B2 q<p.w+1)∧((∃T,iV p i T∧gT M2 B2 T p.lp.m (p.w+1)∧p.u≤B2 i∧∀j,j<k→M2 i j=0)∨(B2 i<p.u∧∃T,iV p (i+1) T∧gT M2 B2 T p.lp.m (p.w+1)))∧k≤p.u) 0 M1 B1 (⟨vG,p3,zU,TP,Nat.zero_le _⟩) ar ?_);rintro k M2 B2 qb ⟨pj,zO,NQ,Uf,Ly⟩;have abr:=BG (t:=ic.top) pj i aT;refine ao ?_
   by_cases CA:k<p.u
   ·
    skip
    by_cases h2u:p.u≤B2 i
    ·
     obtain⟨anM,anN,Nr,akY⟩:=pj.q6 cS;obtain⟨t14,xO,I0⟩:=mm akY (show k<p.w+1 by omega)
     obtain⟨T2,k1,k2,k3,k4⟩:∃T,iV p i T∧gT M2 B2 T p.lp.m (p.w+1)∧p.u≤B2 i∧∀j,j<k→M2 i j=0:=by
      rcases Uf with h9 | ⟨h9,_⟩
      ·exact h9
      ·omega
     have xW:∀q,q<p.lp.m→∀j,j<p.w+1→aO (M2 q j)≤L:=fun q hq j hj=>by rw[k2.eA q hq j hj];exact k1.sz hf j hj q hq
     have anO:=xW i aT k (by omega);refine ag (ab 2 rfl (aI true rfl rfl (jK (by omega)) (ab 4 rfl (aQ ah rfl rfl rfl rfl rfl (abr) (by rw[Int.toNat_natCast];exact gI aT) (by omega) (by omega) fun _=> ?_))));refine ab 1 rfl (aI true rfl rfl (rH (by omega)) (ab 1 rfl (ae [1,2,5,7,8,9,13,17,18,145,146,160] ?_)));refine dN rfl (aA (aj [1,2,5,7,8,9,13,17,18,145,146] rfl ?_));refine ao (aF (ag (ab 3 rfl (aQ ah rfl rfl rfl rfl rfl (pj.hd) (by rw[Int.toNat_natCast];exact kA (rg:=ic.rg) (W:=_) cS) (by omega) (by omega) fun _=> ?_))));refine ab 1 rfl (ck (vs:=[.bool t14.f,.slice t14.A1 t14.m1 t14.c1,.slice t14.A2 t14.m2 t14.c2]) ah rfl rfl rfl rfl (dS Nr) rfl (by decide) (by rw[Int.toNat_natCast];exact I0) (by omega) (by omega) fun _=> ?_);refine aE rfl rfl (Fn.l0 pj.ne (xB (bJ.raw xO) (by omega))) ?_;rintro SV mP ⟨Ug,anP,rfl⟩;have zC:=pj.kept Ug;refine ab 1 rfl (ae [1,2,5,7,8,9,13,17,18,145,146,172] ?_);refine aC rfl (fun hb=> ?_) (fun hb=> ?_)
     ·
      have aZ:M2 i k≠0:=fun h9=>by rw[h9]at hb;simp[gZ]at hb
      have hP2:=k1.pivot (by rw[k2.em];exact aT) (by rw[←k2.eB i aT];exact k3) CA (by rw[←k2.eA i aT k (by omega)];exact aZ)
      have hzP:∀q,q<p.lp.m→∀j,j<p.w+1→aO (mj M2 i k q j)≤L:=fun q hq j hj=>by
       have h9:=k2.pivot (M':=mj M2 i k) aT (show k<p.w+1 by omega) fun _ _ _ _=>rfl;rw[h9.eA q hq j hj];exact hP2.sz hf j hj q hq
      refine aB rfl (vr 3 ?_);have hP:=aaL zC aT aT (show k<p.w+1 by omega) aZ xW hzP (by omega) (by omega) (by omega);rw[NP]at hP;refine aE rfl rfl hP ?_;rintro v16 E5 ⟨M3,akZ,ak0,ak1⟩;refine aw (aj [1,2,5,7,8,9,13,17,18,145,146] rfl ?_);refine aB rfl (ab 1 rfl (aG rfl rfl ⟨by omega,by omega⟩ (ab 1 rfl (aw ?_))));obtain⟨M5,Jr⟩:∃M5:Nat→Nat→Rat,M5=fun q=>if q=p.lp.m then mj M2 i k p.lp.m else M3 q:=⟨_,rfl⟩
      have Js:∀q,q<p.lp.m→M5 q=M3 q:=fun q hq=>by rw[Jr];show (if q=p.lp.m then _ else M3 q)=_;rw[if_neg (by omega)]
      exact⟨k+1,M5,_,by omega,ar,akZ.CE fun q hq j _=>by rw[Js q hq],(zO.trans Ug.le).trans ak1,fun q hq=>by
       show (if q=i then k else B2 q)<_
       split
       ·omega
       ·
        exact NQ q hq,.inr ⟨by rw[if_pos rfl];exact CA,T2.pivot i k,hP2,k2.pivot aT (by omega) fun q hq j hj=>by
        by_cases e:q=p.lp.m
        ·
         subst e;rw[Jr]
         show (if p.lp.m=p.lp.m then _ else M3 _) j=_
         rw[if_pos rfl]
        ·rw[Js q (by omega)];exact ak0 q (by omega) j hj⟩,by omega⟩
     skip
     refine aA (aj [1,2,5,7,8,9,13,17,18,145,146] rfl ?_);refine aB rfl (ab 1 rfl (aG rfl rfl ⟨by omega,by omega⟩ (ab 1 rfl (aw ?_))))
     exact⟨k+1,M2,B2,by omega,ar,zC,zO.trans Ug.le,NQ,.inl ⟨T2,k1,k2,k3,fun j hj=>by
      by_cases e:j=k
      ·subst e;exact tH (by simpa using hb)
      ·exact k4 j (by omega)⟩,by omega⟩
    have hD:∃T,iV p (i+1) T∧gT M2 B2 T p.lp.m (p.w+1):=by
     rcases Uf with ⟨T,_,_,k3,_⟩ | h8
     ·omega
     ·exact h8.2
    refine ag (ab 2 rfl (aI true rfl rfl (jK (by omega)) (ab 4 rfl (aQ ah rfl rfl rfl rfl rfl (abr) (by rw[Int.toNat_natCast];exact gI aT) (by omega) (by omega) fun _=> ?_))));refine ab 1 rfl (aI false rfl rfl (AK (by omega)) (ab 1 rfl (ae [1,2,5,7,8,9,13,17,18,145,146,160] ?_)));refine dU rfl (aV (aj [1,2,5,7,8,9,13,145,146] rfl ?_));refine aB rfl (aG rfl rfl ⟨by omega,by omega⟩ (ab 1 rfl (aw ?_)));exact⟨i+1,M2,B2,by omega,ar,pj,zO,NQ,hD,by omega⟩
   have hD:∃T,iV p (i+1) T∧gT M2 B2 T p.lp.m (p.w+1):=by
    rcases Uf with ⟨T,k1,k2,k3,k4⟩ | h8
    ·exact⟨T,k1.skip (by rw[k2.em];exact aT) (.inr fun j hj=>by rw[←k2.eA i aT j (by omega)];exact k4 j (by omega)),k2⟩
    ·exact h8.2
   refine ag (ab 2 rfl (aI false rfl rfl (ik (by omega)) (ab 9 rfl (ae [1,2,5,7,8,9,13,17,18,145,146,160] ?_))));refine dU rfl (aV (aj [1,2,5,7,8,9,13,145,146] rfl ?_));refine aB rfl (aG rfl rfl ⟨by omega,by omega⟩ (ab 1 rfl (aw ?_)));exact⟨i+1,M2,B2,by omega,ar,pj,zO,NQ,hD,by omega⟩
  have aT:p.lp.m≤i:=by simpa using hb
  obtain rfl:i=p.lp.m:=by omega
  obtain⟨T3,Uh,Ui⟩:=CH;have yb:=gO.trans p3
  have NK:=akN (N1:=2*L) vG (Nat.le_refl _) (hp.le yb) (hc.le (dI N) yb) fi (by omega) zU (by omega) (by omega) (by omega) (by omega) (fun i hi k hk=>akR hf Uh Ui hi hk) (fun i hi k hk=>by
   rw[Ui.eA i hi k hk];have:=Uh.sz hf k hk i hi
   omega)
  rw[NP,←hW]at NK;refine aV (aj [1,2,5,7,8,9,13] rfl ?_);refine bO .bL [0,1,2,3,4,5,6,7,8,9,10] follows (by kernel_rfl) ?_;refine ab 6 rfl (bm rfl rfl NK (fun _ _ ⟨_,_,_,h⟩=>h) ?_);rintro _ mP ⟨z5,rfl,qe,anQ⟩;refine cW Tryz.underlying40 rE rfl rfl rfl rfl rfl rfl rfl ?_;intro gb bx;have hZ6:=qe.fresh zV (e:=whole [.slice (some ⟨z5,0,none⟩) W W] 26) bx;refine dR Tryz.underlying40 rE rfl rfl hZ6.q.rows (dD _ _ _ _ _ _) rfl (BZ _ _ _) (by omega) (by omega) ?_;intro v16 E5 E6;obtain⟨TQ,TR,rfl⟩:=E6.own.form;have ak2:=hZ6.more (Nw E6);obtain⟨NR,vH⟩:=ak2.drop;have vH:=p3.trans vH;obtain⟨vQ,CI⟩:∃vQ,vQ=(fun i=>if i=p.lp.m then lK M1 B1 (eZ p (fn c) 1 p.lp.n) p.lp.m else M1 i):=⟨_,rfl⟩;rw[←CI]at NR
  have abt:og p c (xV vQ B1 p.lp.m p.w):=aaI Uh Ui (fun i hi j hj=>by rw[CI];show (if i=p.lp.m then _ else M1 i) j=_;rw[if_neg (by omega)]) (fun j hj=>by
   rw[CI]
   show (if p.lp.m=p.lp.m then(_:Nat→Rat)else _) j=_
   rw[if_pos rfl])
  obtain⟨Fb,rfl,rfl,abu,NR,vH⟩:∃Fb:GG,Fb.Ar=TQ∧Fb.cr=TR∧Fb.bv = .slice Ab p.lp.m cb∧ct iF E5 Fb (p.lp.m+1) (p.w+1) p.lp.m vQ B1∧Heap.le (rem H3 G.gs) (rem E5 Fb.gs):=⟨ic.more ic.top z5 W TQ TR p.lp.m,rfl,rfl,NP,by rw[←hW];exact NR,vH⟩;refine vr 1 ?_;obtain⟨ti,ak,al⟩:=FW;refine aH (.inr rfl) rfl rfl rfl ak al rfl rfl rfl (ae [1,2,5,7,8,9,13] ?_);refine ag (vr 2 ?_);have hI:=aaT (u:=p.u) NR (by omega) (by omega) (by omega) (fun T r s=>og.step) abt Np abt.acc zU (fun T hT=>hT.sz hf) (by omega);rw[abu]at hI;refine aE rfl rfl hI ?_;rintro _ TS ⟨TT,TU,Jt,T2,rfl,ak3,TV,CJ,rf,NC,CL,Ju⟩;have EU:=vH.trans TV
  have hV:=akO (N1:=L) ak3 (by omega) (hp.le (gO.trans EU)) (by omega) (by omega) NC (by omega) (by omega) (by omega) hL1 (fun i hi=>by
   rw[rf.eA i hi _ (by omega)];exact(CJ.sz hf _ (by omega)).2 i hi)
  rw[abu,←hW,show W-1=p.w by omega]at hV
  have hvz:∀q,q∈aK (jP p (iG TT TU p.w p.lp.m)) p.free.length→aO q≤2*L+17:=fun q hq=>by
   obtain⟨j,hj,rfl⟩:=Cf hq;have:=akM (p:=p) (fun j=>abn (M:=TT) (B:=TU) (n:=p.w) (N:=L) hL1 (fun i hi=>by rw[rf.eA i hi _ (by omega)];exact(CJ.sz hf _ (by omega)).2 i hi) j p.lp.m (Nat.le_refl _)) j
   omega
  refine ab 1 rfl (ae [1,2,5,7,9,13,19] ?_);refine ag (ab 3 rfl (aE rfl rfl hV ?_));rintro xv Sd ⟨Jv,Jw⟩;have NS:=(EU.trans (bE _ _)).trans Jv;refine ab 1 rfl (ae [1,5,9,19,20] ?_);refine ao (ag (ab 2 rfl (ae [1,5,9,20,196] ?_)));refine aC rfl (fun hb=> ?_) (fun hb=> ?_)
  ·
   have hb:Jt=false:=by simpa using hb
   obtain⟨s2,k1,k2,k3⟩:=Ju hb
   have hS:vP p c 3 0:=CJ.unb a8 fi k1 (by rw[←rf.ec s2 (by omega)];exact k2) fun i hi=>by rw[rf.em]at hi;rw[←rf.eA i hi s2 (by omega)];exact k3 i hi
   refine bO .bL [0,1,2,3,4] follows (by kernel_rfl) ?_;refine vr 3 ?_;obtain⟨ti,ak,al⟩:=aY;refine aH (.inl ⟨rfl,rfl⟩) rfl rfl rfl ak al rfl rfl rfl (ab 1 rfl (ae [4,5,6] ?_));obtain⟨NO,yd,ye⟩:=aY;refine aD ⟨.inr rfl,_,.tmp rfl (.agg rfl Tryz.underlying31 yd ye (.tmp rfl (.nil))),?_⟩;exact⟨gO.trans NS,3,t9,xv,0,rfl,hS,fJ.le NS,JC hf hS,fun h9=>absurd h9 (by decide)⟩
  have hb:Jt=true:=by simpa using hb
  have TW:∀j,j<p.u→0≤T2.c j:=fun j hj=>by rw[←rf.ec j (by omega)];exact CL hb j hj
  have hS:=CJ.opt a8 fi TW rf;refine aA (aj [1,5,20] rfl ?_);refine ag (ab 2 rfl (aE rfl rfl (aaU (N:=400000000) ((hc.le (dI N) (gO.trans NS)).abq hN) (Jw.zE fun q hq=>Nat.le_trans (hvz q hq) (by omega)) (by rw[bg];omega) (by omega) (Nat.le_refl _)) ?_));rintro _ Mr ⟨abv,t20,rfl,tN⟩;rw[fi]at tN;refine vr 2 ?_;obtain⟨ti,ak,al⟩:=aY;refine aH (.inl ⟨rfl,rfl⟩) rfl rfl rfl ak al rfl rfl rfl (ab 1 rfl (ae [4,5,6] ?_));obtain⟨NO,yd,ye⟩:=aY;refine aD ⟨.inr rfl,_,.tmp rfl (.agg rfl Tryz.underlying31 yd ye (.tmp rfl (.nil))),?_⟩;exact⟨(gO.trans NS).trans abv,1,t20,xv,_,rfl,hS,tN,JC hf hS,fun _=>⟨_,Jw.le dY abv,bg _ _,hvz,rfl⟩⟩
end Go.au
