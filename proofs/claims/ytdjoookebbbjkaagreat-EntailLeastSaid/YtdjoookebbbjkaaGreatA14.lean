/- Part 14 of the proof: St, Sc, SDat4, Sv. -/
import Derived.Test.YtdjoookebbbjkaaGreatA13
set_option linter.unusedVariables false
namespace Go.aq
open Go.Proofs Num Lp
theorem GU.hle{K H:Heap}{G:GG}{R W m:Nat}{M:Nat→Nat→Rat}{B:Nat→Nat}{u:Value}{l:List Nat}(h:GU K H G R W m M B u l):Heap.le K H:=h.le.trans (bD _ _)
theorem SZ.hle{C:Heap→List Value→Prop}{K H:Heap}{G:GG}{R W m:Nat}{M:Nat→Nat→Rat}{B:Nat→Nat}{u:Value}{l:List Nat}{z:Nat}(h:SZ C K H G R W m M B u l z):Heap.le K H:=h.le.trans (bD _ _)
theorem aa8{rel s:Int}(hr:rel=1∨rel=2∨rel=3)(hs:s=1∨s = -1):(km rel s=1∨km rel s=2∨km rel s=3)∧(km rel s=2↔rel=2):=by
 unfold km
 rcases hr with rfl | rfl | rfl <;> rcases hs with rfl | rfl <;> simp
theorem akT{f:Nat→Rat}{k:Nat}{a b:Rat}:bZ (bZ f k a) k b=bZ f k b:=by
 funext j
 by_cases e:j=k
 ·subst e;rw[jt,jt]
 ·rw[eJ e,eJ e,eJ e]
def To(p:Prg)(i:Nat):Nat→Rat:=bZ (fa p (p.lp.a i) (p.aI i:Rat) p.lp.n) p.w (p.lp.b i*(p.aI i:Rat))
def E7(p:Prg)(i:Nat):Nat→Rat:=if p.lp.rel i=2 then To p i else bZ (To p i) (bC p.lp.rel p.c1 i) (if km (p.lp.rel i) (p.aI i)=1 then 1 else -1)
theorem aa9{p:Prg}{i:Nat}:dN p i=if km (p.lp.rel i) (p.aI i)=1 then E7 p i else bZ (E7 p i) (a8 p.lp.rel p.aI p.u i) 1:=rfl
theorem akU{H:Heap}{p:Prg}{pv:Value}{N:Nat}(bO:p.Ok)(hp:m7 N H pv p)(hN:N≤400000000):
 Fn Tryz.prog 54 #[pv] H (fun v H'=>∃G,v = .tuple #[.agg #[.slice G.Ar p.lp.m G.cr,G.bv],.int .i64 (p.u:Int)]∧G.top = []∧cA iG H' G p.lp.m (p.w+1) p.lp.m (dN p) p.unit∧Heap.le H (rem H' G.gs)):=by
 obtain⟨fv,kE,rfl,ng,nh⟩:=id hp
 obtain⟨Af,cf,xf,rfl,pX,pY⟩:=ng.one
 obtain⟨Ar,cr,xr,rfl,qm,kF,sP⟩:=id nh
 have mh:=bO.pM
 have QK:=bO.rows
 have hpn:p.lp.n=p.free.length:=rfl
 have s3:p.lp.m=p.rows.length:=rfl
 have dt:=yd (p:=p)
 have hcu:=mC p
 have mA:=ft p
 have Rg:p.w≤2*p.lp.n+2*p.lp.m:=HC p
 have AF:p.c1=p.free.length+p.xf p.free.length:=by show a6 _ _=_+(a6 p.lp.free p.lp.n-p.lp.n);have:=zV (fr:=p.lp.free) p.lp.n;omega
 have mq:p.u=p.c1+p.sf p.rows.length:=by show bC _ _ _=_+(bC p.lp.rel p.c1 p.lp.m-p.c1);have:=(sK p.lp.rel p.c1 p.lp.m).2;omega
 have han:p.w=p.u+p.af p.rows.length:=by show a8 _ _ _ _=_+(a8 p.lp.rel p.aI p.u p.lp.m-p.u);have:=(sL p.lp.rel p.aI p.u p.lp.m).2;omega
 obtain⟨W,hW⟩:∃W,W=p.w+1:=⟨_,rfl⟩
 rw[←hW];refine aZ (args:=[_]) Tryz.func54 rfl rfl Tryz.ntmps54 rfl rfl fun w0=> ?_;refine ah [0] rfl ?_;refine ae (bY rfl rfl (bh J8 rfl (aa 1 rfl (ab [1,2] ?_))));refine ae (aC rfl rfl ((oU (n:=0) (by decide) (by decide)).rc) ?_);rintro _ H1 ⟨bx,t4,rfl,ct⟩;rw[show ((0:Int):Rat)=0 from rfl]at ct;refine aC rfl rfl ((oU (n:=1) (by decide) (by decide)).rc) ?_;rintro _ H2 ⟨cD,t5,rfl,dZ⟩;rw[show ((1:Int):Rat)=1 from rfl]at dZ;have Ng:=bx.trans cD
 have nF:aN (1:Rat)≤2:=by decide
 refine bh bQ rfl (bh bQ rfl ?_);obtain⟨ti,aj,ak⟩:=aU;refine aH (.inl ⟨rfl,rfl⟩) rfl rfl rfl aj ak rfl rfl rfl ?_;obtain⟨ti,aj,ak⟩:=aU;refine aH (.inl ⟨rfl,rfl⟩) rfl rfl rfl aj ak rfl rfl rfl (ab [1,2,4,5] ?_);refine ae (aa 3 rfl (ab [1,2,4,5,6,7,8] ?_));refine ao (ae (aa 4 rfl (ab [1,2,4,5,6,7,8,28,29] ?_)));refine aE (fY (fun(j:Nat)=>p.free.length-j) (fun(j:Nat)=>put (put (put (put (put (put (put (put (put (emp) 1 (.box [.slice Af p.free.length cf,.slice Ar p.rows.length cr])) 2 (.box [.slice none 0 0,.slice none 0 0])) 4 (.box [.bool t4.f,.slice t4.A1 t4.m1 t4.c1,.slice t4.A2 t4.m2 t4.c2])) 5 (.box [.bool t5.f,.slice t5.A1 t5.m1 t5.c1,.slice t5.A2 t5.m2 t5.c2])) 6 (.val (.int .i64 (p.xf j:Int)))) 7 (.val (.int .i64 0))) 8 (.val (.int .i64 0))) 28 (.val (.int .i64 (p.free.length:Int)))) 29 (.val (.int .i64 (j:Int)))) (fun(j:Nat) H'=>H'=H2∧j≤p.free.length∧p.xf j≤j) 0 (⟨rfl,Nat.zero_le _,Nat.le_refl _⟩) (by repeat (first | exact iJ _ | refine dA rfl ?_ | refine dA (iX (by first | omega | (simp;done) | rfl)) ?_)) ?_);rintro j H2b ⟨e2,hj,W6⟩;rw[e2];clear e2 H2b;refine ae (aa 1 rfl (ab [1,2,4,5,6,7,8,28,29,30] ?_));refine ao (aD rfl (fun hb=> ?_) (fun hb=> ?_))
 ·
  have gN:j<p.free.length:=by simpa using hb
  obtain⟨uf,qM,kn⟩:=pY j _ (List.getElem?_eq_getElem gN);have kn: [uf] = [Value.bool p.free[j]]:=kn
  cases kn
  have jF:p.lp.free j=p.free[j]:=Prg.Bu (List.getElem?_eq_getElem gN);have e8:=akL (p:=p) (j:=j);refine az (ah [1,2,4,5,6,7,8,28,29] rfl ?_);refine ao (aE (ae (aa 2 rfl (ab [1,2,4,5,6,7,8,9,28,29] ?_))));refine ae (aa 3 rfl (aS ag rfl rfl rfl rfl rfl (pX.le Ng) (by rw[Int.toNat_natCast];exact qM) (by omega) (by omega) fun _=> ?_));refine ab [1,2,4,5,6,7,8,28,29,36] ?_;refine aD rfl (fun hb=> ?_) (fun hb=> ?_)
  ·
   have fL:p.lp.free j=true:=by rw[jF];simpa using hb
   rw[if_pos fL]at e8;refine aA rfl (aa 1 rfl (aF rfl rfl ⟨by omega,by omega⟩ (aa 1 rfl (au (ah [1,2,4,5,6,7,8,28,29] rfl ?_)))));refine aA rfl (aF rfl rfl ⟨by omega,by omega⟩ (aa 1 rfl (au ?_)));exact⟨j+1,by omega,ar,rfl,by omega,by omega⟩
  ·
   have fL:¬p.lp.free j=true:=by rw[jF];simpa using hb
   rw[if_neg fL]at e8;refine az (ah [1,2,4,5,6,7,8,28,29] rfl ?_);refine aA rfl (aF rfl rfl ⟨by omega,by omega⟩ (aa 1 rfl (au ?_)));exact⟨j+1,by omega,ar,rfl,by omega,by omega⟩
 ·
  have gN:p.free.length≤j:=by simpa using hb
  obtain rfl:j=p.free.length:=by omega
  refine aX (ah [1,2,4,5,6,7,8] rfl ?_);refine ae (aa 3 rfl (gP Tryz.underlying53 jx rfl rfl rfl (by omega) (by omega) (by omega) (by omega) ?_));intro gx lO;have z7:=Mi (P:=fK (N+2)) (e:=80) (sz:=5) (zs:=[.slice none 0 0,.int .i64 0,.bool false,.slice none 0 0,.slice none 0 0]) (z:=0) (k:=(p.rows.length:Int)) (c:=p.rows.length) lO rfl (Int.toNat_natCast _) (by unfold maxLen;omega);rw[Int.toNat_natCast]at z7⊢;refine aa 1 rfl (ab [1,2,4,5,6,7,8,10] ?_);refine ao (ae (aa 4 rfl (ab [1,2,4,5,6,7,8,10,46,47] ?_)));refine aE (fB (fun(i:Nat)(w:Value)(ws:List Value)=>p.rows.length-i) (fun(i:Nat)(w:Value)(ws:List Value)=>put (put (put (put (put (put (put (put (put (put (emp) 1 (.box [.slice Af p.free.length cf,.slice Ar p.rows.length cr])) 2 (.box [.slice none 0 0,.slice none 0 0])) 4 (.box [.bool t4.f,.slice t4.A1 t4.m1 t4.c1,.slice t4.A2 t4.m2 t4.c2])) 5 (.box [.bool t5.f,.slice t5.A1 t5.m1 t5.c1,.slice t5.A2 t5.m2 t5.c2])) 6 (.val (.int .i64 (p.xf p.free.length:Int)))) 7 (.val (.int .i64 (p.sf i:Int)))) 8 (.val (.int .i64 (p.af i:Int)))) 10 (.val (w))) 46 (.val (.int .i64 (p.rows.length:Int)))) 47 (.val (.int .i64 (i:Int)))) (fun(i:Nat)(w:Value)(ws:List Value) H'=>dU (fK (N+2)) 80 5 H2 H' w ((p.rows.take i).map fw) ws∧i≤p.rows.length∧p.sf i≤i∧p.af i≤i) 0 _ _ (⟨z7,Nat.zero_le _,by show bC _ _ 0-_≤_;unfold bC;omega,by show a8 _ _ _ 0-_≤_;unfold a8;omega⟩) (by repeat (first | exact iJ _ | refine dA rfl ?_ | refine dA (iX (by first | omega | (simp;done) | (show _=((bC _ _ 0-_:Nat):Int);unfold bC;omega) | (show _=((a8 _ _ _ 0-_:Nat):Int);unfold a8;omega))) ?_)) ?_)
  rintro i w ws H3 ⟨hG,hi,hsi,Lu⟩;obtain⟨A3,c3,rfl⟩:=hG.form
  have pd:((p.rows.take i).map fw).length=i:=by simp;omega
  refine ae (aa 1 rfl (ab [1,2,4,5,6,7,8,10,46,47,48] ?_));refine ao (aD rfl (fun hb=> ?_) (fun hb=> ?_))
  ·
   have aP:i<p.rows.length:=by simpa using hb
   obtain⟨r,hr⟩:∃r,p.rows[i]? = some r:=⟨_,List.getElem?_eq_getElem aP⟩;obtain⟨A0,c0,f,A1,m1,c1,A2,m2,c2,rZ,j7,akV,xO⟩:=aQ.aiH sP hr;have E8:=bO.row i r hr;have kG:=bO.valid i aP;have Je:p.aI i=1∨p.aI i = -1:=sJ _ _;have cW:=aa7 hr;have ho:=Sq kG Je;obtain⟨ef,dK⟩:=aa8 kG Je;rw[←cW]at ho ef dK;have e7:=akO (p:=p) (i:=i);have e8:=akP (p:=p) (i:=i);refine az (ah [1,2,4,5,6,7,8,10,46,47] rfl ?_);refine ao (aE (ae (aa 2 rfl (ab [1,2,4,5,6,7,8,10,11,46,47] ?_))));refine ae (aa 3 rfl (cj (vs:=[.slice A0 r.1.length c0,.int .i64 r.2.1,.bool f,.slice A1 m1 c1,.slice A2 m2 c2]) ag rfl rfl rfl rfl (kF.le (Ng.trans hG.le)) rfl (by decide) xO (by omega) (by omega) fun _=>(aC rfl rfl (hG.call (akk (N:=N) (jC N _ _ _ _ (Ng.trans hG.base) ⟨_,_,_,_,rfl,j7,akV⟩) hN (by rw[E8.1];omega) E8.2)) ?_)));rintro _ H6 nv;have gU:=hG.kX (jC (N+2)) nv fun _ _ h=>h.1;obtain⟨⟨_,A5,c5,f5,B1,k1,e1,B2,k2,e2,rfl,oV⟩,_⟩:=nv;refine bh jx rfl ?_;obtain⟨ti,aj,ak⟩:=nB;refine aH (.inl ⟨rfl,rfl⟩) rfl rfl rfl aj ak rfl rfl rfl (ab [1,2,4,5,6,7,8,10,12,46,47] ?_);refine ae (aa 2 rfl (cI Tryz.underlying53 jx rfl rfl rfl rfl rfl rfl rfl ?_))
   intro gd rI;have qN:=gU.ins (jC (N+2)) (whole (dS [.agg #[.slice A5 r.1.length c5,.int .i64 (fw r).2.1,.bool f5,.slice B1 k1 e1,.slice B2 k2 e2]]) 80) rI;refine dW Tryz.underlying53 jx rfl rfl qN.own (ea _ _ _ _ _ _) rfl (Zv _ _ _ _ _ _ _ _ _ _ _) (by rw[pd];omega) (by rw[pd];omega) ?_;intro v9 H9 uk;have l0:=qN.append (jC (N+2)) (k:=[fw r]) (by simp) uk (iE (jC (N+2) _ _ _ _ (pK _ (Heap.bG _ rI)) oV) rfl);obtain⟨F9,f9,rfl⟩:=l0.form;refine aa 1 rfl (ab [1,2,4,5,6,7,8,10,12,46,47] ?_);refine ao (ae (aa 3 rfl (ab [1,2,4,5,6,7,8,10,12,46,47,62] ?_)));refine aD rfl (fun hb=> ?_) (fun hb=> ?_)
   ·
    have hb:¬(fw r).2.1=2:=by simpa using hb
    rw[if_neg (fun h=>hb (dK.2 h))]at e7;refine aA rfl (aa 1 rfl (aF rfl rfl ⟨by omega,by omega⟩ (aa 1 rfl (au (ah [1,2,4,5,6,7,8,10,12,46,47] rfl ?_)))));refine ae (aa 3 rfl (ab [1,2,4,5,6,7,8,10,46,47,67] ?_));refine aD rfl (fun hb=> ?_) (fun hb=> ?_)
    ·
     have hb:¬(fw r).2.1=1:=by simpa using hb
     rw[if_neg (fun h=>hb (ho.1 h))]at e8;refine aA rfl (aa 1 rfl (aF rfl rfl ⟨by omega,by omega⟩ (aa 1 rfl (au (ah [1,2,4,5,6,7,8,10,46,47] rfl ?_)))));refine aA rfl (aF rfl rfl ⟨by omega,by omega⟩ (aa 1 rfl (au ?_)));exact⟨i+1,_,_,by omega,ar,by rw[oZ hr];exact l0,by omega,by omega,by omega⟩
    have hb:(fw r).2.1=1:=by simpa using hb
    rw[if_pos (ho.2 hb)]at e8;refine az (ah [1,2,4,5,6,7,8,10,46,47] rfl ?_);refine aA rfl (aF rfl rfl ⟨by omega,by omega⟩ (aa 1 rfl (au ?_)));exact⟨i+1,_,_,by omega,ar,by rw[oZ hr];exact l0,by omega,by omega,by omega⟩
   have hb:(fw r).2.1=2:=by simpa using hb
   rw[if_pos (dK.1 hb)]at e7;refine az (ah [1,2,4,5,6,7,8,10,12,46,47] rfl ?_);refine ae (aa 3 rfl (ab [1,2,4,5,6,7,8,10,46,47,67] ?_));refine aD rfl (fun hb=> ?_) (fun hb=> ?_)
   ·
    have hb:¬(fw r).2.1=1:=by simpa using hb
    rw[if_neg (fun h=>hb (ho.1 h))]at e8;refine aA rfl (aa 1 rfl (aF rfl rfl ⟨by omega,by omega⟩ (aa 1 rfl (au (ah [1,2,4,5,6,7,8,10,46,47] rfl ?_)))));refine aA rfl (aF rfl rfl ⟨by omega,by omega⟩ (aa 1 rfl (au ?_)));exact⟨i+1,_,_,by omega,ar,by rw[oZ hr];exact l0,by omega,by omega,by omega⟩
   have hb:(fw r).2.1=1:=by simpa using hb
   rw[if_pos (ho.2 hb)]at e8;refine az (ah [1,2,4,5,6,7,8,10,46,47] rfl ?_);refine aA rfl (aF rfl rfl ⟨by omega,by omega⟩ (aa 1 rfl (au ?_)));exact⟨i+1,_,_,by omega,ar,by rw[oZ hr];exact l0,by omega,by omega,by omega⟩
  have aP:p.rows.length≤i:=by simpa using hb
  obtain rfl:i=p.rows.length:=by omega
  rw[pd];have Ak:=hG.sl (jC (N+2));rw[List.take_length]at Ak;obtain⟨A3',c3',x3,e3,rR,xB,gT⟩:=id Ak
  cases e3
  have aba:=Ng.trans hG.le;have hs0:bC p.lp.rel p.c1 0=p.c1:=rfl;have hu0:a8 p.lp.rel p.aI p.u 0=p.u:=rfl;have ct:=(ct.le cD).le hG.le;have dZ:=dZ.le hG.le;refine aX (ah [1,2,4,5,6,7,8,10] rfl ?_);refine ae (aa 4 rfl (aF rfl rfl ⟨by omega,by omega⟩ (aa 1 rfl (aF rfl rfl ⟨by omega,by omega⟩ (aa 1 rfl (ab [1,2,4,5,6,8,10,13] ?_))))));refine ae (bh J8 rfl (ab [1,2,4,5,6,8,10,13,14] ?_));refine ae (aa 4 rfl (aF rfl rfl ⟨by omega,by omega⟩ (aa 3 rfl (ab [1,2,4,5,8,10,13,14,15,16] ?_))));refine ao (ae (aa 3 rfl (ab [1,2,4,5,8,13,14,15,16,84,85,86] ?_)));refine aE (fB (fun(i:Nat)(G:GG)(u:Value)=>p.rows.length-i) (fun(i:Nat)(G:GG)(u:Value)=>put (put (put (put (put (put (put (put (put (put (put (put (emp) 1 (.box [.slice Af p.free.length cf,.slice Ar p.rows.length cr])) 2 (.box [.slice none 0 0,.slice none 0 0])) 4 (.box [.bool t4.f,.slice t4.A1 t4.m1 t4.c1,.slice t4.A2 t4.m2 t4.c2])) 5 (.box [.bool t5.f,.slice t5.A1 t5.m1 t5.c1,.slice t5.A2 t5.m2 t5.c2])) 8 (.val (.int .i64 (p.af p.rows.length:Int)))) 13 (.val (.int .i64 (p.u:Int)))) 14 (.box [.slice G.Ar i G.cr,u])) 15 (.val (.int .i64 (bC p.lp.rel p.c1 i:Int)))) 16 (.val (.int .i64 (a8 p.lp.rel p.aI p.u i:Int)))) 84 (.val (.slice A3 p.rows.length c3))) 85 (.val (.int .i64 (p.rows.length:Int)))) 86 (.val (.int .i64 (i:Int)))) (fun(i:Nat)(G:GG)(u:Value) H'=>GU H3 H' G i W 0 (dN p) p.unit u ((List.range i).map p.unit)∧G.top = []∧G.bb = []∧i≤p.rows.length) 0 g0 (.slice none 0 0) (⟨akK,rfl,rfl,Nat.zero_le _⟩) (by repeat (first | exact iJ _ | refine dA rfl ?_ | refine dA (iX (by first | omega | (simp;done) | rfl)) ?_)) ?_)
  rintro i G u H4 ⟨hU,Tp,Nh,hi⟩
  have tA:((List.range i).map p.unit).length=i:=by simp
  refine ae (aa 1 rfl (ab [1,2,4,5,8,13,14,15,16,84,85,86,87] ?_));refine ao (aD rfl (fun hb=> ?_) (fun hb=> ?_))
  ·
   have aP:i<p.rows.length:=by simpa using hb
   obtain⟨r,hr⟩:∃r,p.rows[i]? = some r:=⟨_,List.getElem?_eq_getElem aP⟩
   have jr:(p.rows.length:Nat)=(p.rows.map fw).length:=by simp
   obtain⟨vs5,SO,Tq,abb⟩:=gT.get (show (p.rows.map fw)[i]? = some (fw r) by rw[List.getElem?_map,hr];rfl);obtain⟨A5,c5,L5,f5,B1,k1,e1,B2,k2,e2,rfl,rfl⟩:=fK.cells Tq;have Tr:cT H3 (.agg #[.bool f5,.slice B1 k1 e1,.slice B2 k2 e2]) (fw r).2.2 (N+2):=fK.bound Tq;have akW:aQ (dI (N+2)) 3 H3 (.slice A5 (fw r).1.length c5) (fw r).1:=fK.bN Tq;obtain⟨A5',c5',x5,e5,lS,akX,m0⟩:=id akW
   cases e5
   rw[akR]at abb;have E8:=bO.row i r hr;have kG:=bO.valid i aP;have Je:p.aI i=1∨p.aI i = -1:=sJ _ _;have cW:=aa7 hr;rw[akQ hr]at Tr;have ho:=Sq kG Je;obtain⟨ef,dK⟩:=aa8 kG Je;have sy:=(sK p.lp.rel p.c1 i);have hu9:=(sL p.lp.rel p.aI p.u i);have Hd:bC p.lp.rel p.c1 (i+1)=bC p.lp.rel p.c1 i+(if p.lp.rel i=2 then 0 else 1):=rfl;have abc:a8 p.lp.rel p.aI p.u (i+1)=a8 p.lp.rel p.aI p.u i+(if eY (p.lp.rel i) (p.aI i)then 0 else 1):=rfl;refine az (ah [1,2,4,5,8,13,14,15,16,84,85,86] rfl ?_);refine ao (aE (ae (cj (vs:=[.slice A5 r.1.length c5,.int .i64 (fw r).2.1,.bool f5,.slice B1 k1 e1,.slice B2 k2 e2]) ag rfl rfl rfl rfl (xB.le hU.hle) rfl (by decide) abb (by omega) (by omega) fun _=>(bh jx rfl ?_))));obtain⟨ti,aj,ak⟩:=nB;refine aH (.inl ⟨rfl,rfl⟩) rfl rfl rfl aj ak rfl rfl rfl (ab [1,2,4,5,8,13,14,15,16,18,84,85,86] ?_);refine ae (aa 2 rfl (aF rfl rfl ⟨by omega,by omega⟩ (aF rfl rfl ⟨by omega,by omega⟩ (gP Tryz.underlying28 bQ rfl rfl rfl (by omega) (by omega) (by omega) (by omega) ?_))));intro z hz;rw[show ((p.u:Int)+(p.af p.rows.length:Int)+1).toNat=W by omega];have CO:=hU.start (C:=lD W (fun _=>0) 0) (xs:=dd [.bool false,.slice none 0 0,.slice none 0 0] (W*3)) hz Nf
   refine aa 1 rfl (ab [1,2,4,5,8,13,14,15,16,18,19,84,85,86] ?_);refine ao (ae (aa 3 rfl (ab [1,2,4,5,8,13,14,15,16,18,19,84,85,86,96,97] ?_)));refine aE (fY (fun(k:Nat)=>W-k) (fun(k:Nat)=>put (put (put (put (put (put (put (put (put (put (put (put (put (put (put (put (emp) 1 (.box [.slice Af p.free.length cf,.slice Ar p.rows.length cr])) 2 (.box [.slice none 0 0,.slice none 0 0])) 4 (.box [.bool t4.f,.slice t4.A1 t4.m1 t4.c1,.slice t4.A2 t4.m2 t4.c2])) 5 (.box [.bool t5.f,.slice t5.A1 t5.m1 t5.c1,.slice t5.A2 t5.m2 t5.c2])) 8 (.val (.int .i64 (p.af p.rows.length:Int)))) 13 (.val (.int .i64 (p.u:Int)))) 14 (.box [.slice G.Ar i G.cr,u])) 15 (.val (.int .i64 (bC p.lp.rel p.c1 i:Int)))) 16 (.val (.int .i64 (a8 p.lp.rel p.aI p.u i:Int)))) 18 (.box [.slice A5 r.1.length c5,.int .i64 (fw r).2.1,.bool f5,.slice B1 k1 e1,.slice B2 k2 e2])) 19 (.val (.slice (some ⟨z,0,none⟩) W W))) 84 (.val (.slice A3 p.rows.length c3))) 85 (.val (.int .i64 (p.rows.length:Int)))) 86 (.val (.int .i64 (i:Int)))) 96 (.val (.int .i64 (W:Int)))) 97 (.val (.int .i64 (k:Int)))) (fun(k:Nat) H'=>SZ (lD W (fun _=>0) k) H3 H' G i W 0 (dN p) p.unit u ((List.range i).map p.unit) z∧k≤W) 0 (⟨CO,Nat.zero_le _⟩) ar ?_);rintro k H5 ⟨hS,hk⟩;obtain⟨xs,hx,hC⟩:=hS.row;have cZ:=Jd hC hk;refine ae (vr 1 ?_)
   refine ab [1,2,4,5,8,13,14,15,16,18,19,84,85,86,96,97,98] ?_;refine ao (aD rfl (fun hb=> ?_) (fun hb=> ?_))
   ·
    have fi:k<W:=by simpa using hb
    refine az (ah [1,2,4,5,8,13,14,15,16,18,19,84,85,86,96,97] rfl ?_);refine ao (aE (ae (aa 2 rfl (ab [1,2,4,5,8,13,14,15,16,18,19,20,84,85,86,96,97] ?_))));refine aA rfl (vr 3 ?_);obtain⟨ti,aj,ak⟩:=aU;refine cV (.inl rfl) ag rfl rfl rfl (by omega) (by omega) (hx) rfl (by show 0+W*3≤xs.length;omega) aj ak (fun _=>rfl) rfl rfl rfl fun _=> ?_;refine au ?_;rw[pe,Int.toNat_natCast];have jW:=hS.set (.refl _ _) (Nc hC fi (show bV _ [_,_,_] _ from ct.le hS.le));refine ah [1,2,4,5,8,13,14,15,16,18,19,84,85,86,96,97] rfl ?_;refine aA rfl (aF rfl rfl ⟨by omega,by omega⟩ (aa 1 rfl (au ?_)));exact⟨k+1,by omega,ar,jW,by omega⟩
   have fi:W≤k:=by simpa using hb
   obtain rfl:k=W:=by omega
   have CP:=hS.to (C':=la k (fa p (p.lp.a i) (p.aI i:Rat) 0)) fun _ h=>Nd h;refine aX (ah [1,2,4,5,8,13,14,15,16,18,19,84,85,86] rfl ?_);refine ae (aa 4 rfl (ab [1,2,4,5,8,13,14,15,16,18,19,21,84,85,86] ?_));refine ao (ae (aa 4 rfl (ab [1,2,4,5,8,13,14,15,16,18,19,21,84,85,86,110,111] ?_)));refine aE (fY (fun(j:Nat)=>p.free.length-j) (fun(j:Nat)=>put (put (put (put (put (put (put (put (put (put (put (put (put (put (put (put (put (emp) 1 (.box [.slice Af p.free.length cf,.slice Ar p.rows.length cr])) 2 (.box [.slice none 0 0,.slice none 0 0])) 4 (.box [.bool t4.f,.slice t4.A1 t4.m1 t4.c1,.slice t4.A2 t4.m2 t4.c2])) 5 (.box [.bool t5.f,.slice t5.A1 t5.m1 t5.c1,.slice t5.A2 t5.m2 t5.c2])) 8 (.val (.int .i64 (p.af p.rows.length:Int)))) 13 (.val (.int .i64 (p.u:Int)))) 14 (.box [.slice G.Ar i G.cr,u])) 15 (.val (.int .i64 (bC p.lp.rel p.c1 i:Int)))) 16 (.val (.int .i64 (a8 p.lp.rel p.aI p.u i:Int)))) 18 (.box [.slice A5 r.1.length c5,.int .i64 (fw r).2.1,.bool f5,.slice B1 k1 e1,.slice B2 k2 e2])) 19 (.val (.slice (some ⟨z,0,none⟩) k k))) 84 (.val (.slice A3 p.rows.length c3))) 85 (.val (.int .i64 (p.rows.length:Int)))) 86 (.val (.int .i64 (i:Int)))) 21 (.val (.int .i64 (p.mi j:Int)))) 110 (.val (.int .i64 (p.free.length:Int)))) 111 (.val (.int .i64 (j:Int)))) (fun(j:Nat) H'=>SZ (la k (fa p (p.lp.a i) (p.aI i:Rat) j)) H3 H' G i k 0 (dN p) p.unit u ((List.range i).map p.unit) z∧j≤p.free.length) 0 (⟨CP,Nat.zero_le _⟩) (by repeat (first | exact iJ _ | refine dA rfl ?_ | refine dA (iX (by first | omega | (simp;done) | rfl)) ?_)) ?_)
   rintro j H7 ⟨hS,hj⟩;obtain⟨xs,hx,hC⟩:=hS.row;have cZ:=yp hC;refine ae (aa 1 rfl (ab [1,2,4,5,8,13,14,15,16,18,19,21,84,85,86,110,111,112] ?_));refine ao (aD rfl (fun hb=> ?_) (fun hb=> ?_))
   ·
    have gN:j<p.free.length:=by simpa using hb
    obtain⟨uf,qM,kn⟩:=pY j _ (List.getElem?_eq_getElem gN);have kn: [uf] = [Value.bool p.free[j]]:=kn
    cases kn
    have jF:p.lp.free j=p.free[j]:=Prg.Bu (List.getElem?_eq_getElem gN);obtain⟨g6,G1,n1,o1,G2,n2,o2,SP,wg,Ts⟩:=aQ.Cj m0 (akS hr (List.getElem?_eq_getElem (show j<r.1.length by rw[E8.1];exact gN)));have aat:=MM (p:=p) (j:=j);have Tt:=wg.size;refine az (ah [1,2,4,5,8,13,14,15,16,18,19,21,84,85,86,110,111] rfl ?_);refine ao (aE (ae (aa 2 rfl (ab [1,2,4,5,8,13,14,15,16,18,19,21,22,84,85,86,110,111] ?_))));refine ae (aa 5 rfl (cj (vs:=[.bool g6,.slice G1 n1 o1,.slice G2 n2 o2]) ag rfl rfl rfl rfl (akX.le hS.hle) rfl (by decide) Ts (by have:=E8.1;omega) (by have:=E8.1;omega) fun _=> ?_));refine aC rfl rfl (Fn.kq hS.q.ne (tY (wg.le hS.le) (by omega))) ?_;rintro v8 H8 gh;obtain⟨t8,rfl,eQ⟩:=gh.val;have rh:=(gh.kept.same z SZ.mJ).trans hx;obtain⟨ti,aj,ak⟩:=aU;refine cV (.inl rfl) ag rfl rfl rfl (by omega) (by omega) (rh) rfl (by show 0+k*3≤xs.length;omega) aj ak (fun _=>rfl) rfl rfl rfl fun _=> ?_;refine ab [1,2,4,5,8,13,14,15,16,18,19,21,22,84,85,86,110,111] ?_;rw[pe,Int.toNat_natCast];have jW:=hS.wj gh.kept hC (show j<k by omega) (show bV _ [_,_,_] _ from eQ);refine ae (aa 3 rfl (aS ag rfl rfl rfl rfl rfl (pX.le (aba.trans jW.hle)) (by rw[Int.toNat_natCast];exact qM) (by omega) (by omega) fun _=> ?_))
    refine ab [1,2,4,5,8,13,14,15,16,18,19,21,22,84,85,86,110,111,127] ?_;refine aD rfl (fun hb=> ?_) (fun hb=> ?_)
    ·
     have fL:p.lp.free j=true:=by rw[jF];simpa using hb
     have ye:p.mi j<k:=by have:=wb (p:=p) (j:=j) gN fL;omega
     obtain⟨ys,hy,hD⟩:=jW.row;have kK:=yp hD;obtain⟨t9,yl,GB⟩:=l5 hD (show j<k by omega);rw[jt]at yl;have we:aN (p.lp.a i j*(p.aI i:Rat))≤N+4:=Tt;refine ae (aa 4 rfl (cj (vs:=[.bool t9.f,.slice t9.A1 t9.m1 t9.c1,.slice t9.A2 t9.m2 t9.c2]) ag rfl rfl rfl rfl (dQ hy) rfl (by decide) (by rw[Int.toNat_natCast];exact GB) (by omega) (by omega) fun _=> ?_));refine aC rfl rfl (Fn.kq jW.q.ne (BU ((bH.raw yl).mono we) (by omega))) ?_;rintro v10 lW td;obtain⟨t10,rfl,nW⟩:=td.val;have Ah:=(td.kept.same z SZ.mJ).trans hy;obtain⟨ti,aj,ak⟩:=aU;refine cV (.inl rfl) ag rfl rfl rfl (by omega) (by omega) (Ah) rfl (by show 0+k*3≤ys.length;omega) aj ak (fun _=>rfl) rfl rfl rfl fun _=> ?_;refine ab [1,2,4,5,8,13,14,15,16,18,19,21,84,85,86,110,111] ?_;rw[pe,Int.toNat_natCast];have yq:=jW.wj td.kept hD ye (show bV _ [_,_,_] _ from nW);refine aA rfl (aa 1 rfl (aF rfl rfl ⟨by omega,by omega⟩ (aa 1 rfl (au (ah [1,2,4,5,8,13,14,15,16,18,19,21,84,85,86,110,111] rfl ?_)))));refine aA rfl (aF rfl rfl ⟨by omega,by omega⟩ (aa 1 rfl (au ?_)))
     have e8:p.mi (j+1)=p.mi j+1:=by rw[wc,if_pos fL]
     exact⟨j+1,by omega,ar,by unfold fa;rw[if_pos fL];exact yq,by omega⟩
    have fL:¬p.lp.free j=true:=by rw[jF];simpa using hb
    refine az (ah [1,2,4,5,8,13,14,15,16,18,19,21,84,85,86,110,111] rfl ?_);refine aA rfl (aF rfl rfl ⟨by omega,by omega⟩ (aa 1 rfl (au ?_)))
    have e8:p.mi (j+1)=p.mi j:=by rw[wc,if_neg fL,Nat.add_zero]
    exact⟨j+1,by omega,ar,by unfold fa;rw[if_neg fL];exact jW,by omega⟩
   have gN:p.free.length≤j:=by simpa using hb
   obtain rfl:j=p.free.length:=by omega
   have Xc:=Tr.size;refine aX (ah [1,2,4,5,8,13,14,15,16,18,19,84,85,86] rfl ?_);refine ae (aa 3 rfl (cQ rfl rfl ⟨by omega,by omega⟩ (aa 2 rfl (aC rfl rfl (Fn.kq hS.q.ne (tY (Tr.le hS.le) (by omega))) ?_))));rintro v8 H8 gh;obtain⟨t8,rfl,eQ⟩:=gh.val;have rh:=(gh.kept.same z SZ.mJ).trans hx;obtain⟨ti,aj,ak⟩:=aU;refine cV (.inl rfl) ag rfl rfl rfl (by omega) (by omega) (rh) rfl (by show 0+k*3≤xs.length;omega) aj ak (fun _=>rfl) rfl rfl rfl fun _=> ?_;refine ab [1,2,4,5,8,13,14,15,16,18,19,84,85,86] ?_;rw[pe,show ((k:Int)-1).toNat=p.w by omega];have jW:SZ (la k (To p i)) _ _ _ _ _ _ _ _ _ _ _:=hS.wj gh.kept hC (show p.w<k by omega) (show bV _ [_,_,_] _ from eQ);obtain⟨ys,hy,hD⟩:=jW.row;have kK:=yp hD;refine ae (aa 2 rfl (ab [1,2,4,5,8,13,14,15,16,18,19,23,84,85,86] ?_));refine kM (fun(b9:Bool)=>put (put (put (put (put (put (put (put (put (put (put (put (put (put (put (emp) 1 (.box [.slice Af p.free.length cf,.slice Ar p.rows.length cr])) 2 (.box [.slice none 0 0,.slice none 0 0])) 4 (.box [.bool t4.f,.slice t4.A1 t4.m1 t4.c1,.slice t4.A2 t4.m2 t4.c2])) 5 (.box [.bool t5.f,.slice t5.A1 t5.m1 t5.c1,.slice t5.A2 t5.m2 t5.c2])) 8 (.val (.int .i64 (p.af p.rows.length:Int)))) 13 (.val (.int .i64 (p.u:Int)))) 14 (.box [.slice G.Ar i G.cr,u])) 15 (.val (.int .i64 (bC p.lp.rel p.c1 (i+1):Int)))) 16 (.val (.int .i64 (a8 p.lp.rel p.aI p.u i:Int)))) 18 (.box [.slice A5 r.1.length c5,.int .i64 (fw r).2.1,.bool f5,.slice B1 k1 e1,.slice B2 k2 e2])) 19 (.val (.slice (some ⟨z,0,none⟩) k k))) 84 (.val (.slice A3 p.rows.length c3))) 85 (.val (.int .i64 (p.rows.length:Int)))) 86 (.val (.int .i64 (i:Int)))) 23 (.val (.int .i64 (bC p.lp.rel p.c1 i:Int)))) (fun(b9:Bool) H'=>SZ (la k (E7 p i)) H3 H' G i k 0 (dN p) p.unit u ((List.range i).map p.unit) z) ?_ ?_
   ·
    refine ae (aa 3 rfl (ab [1,2,4,5,8,13,14,15,16,18,19,23,84,85,86,150] ?_));refine aD rfl (fun hb=> ?_) (fun hb=> ?_)
    ·
     have h2:¬p.lp.rel i=2:=fun h=>by have:=dK.2 h;simp at hb;omega
     have anQ:=B3 (p:=p) aP h2;refine ae (vr 3 ?_);obtain⟨ti,aj,ak⟩:=aU;refine cV (.inl rfl) ag rfl rfl rfl (by omega) (by omega) (hy) rfl (by show 0+k*3≤ys.length;omega) aj ak (fun _=>rfl) rfl rfl rfl fun _=> ?_;refine ab [1,2,4,5,8,13,14,15,16,18,19,23,84,85,86] ?_;rw[pe,Int.toNat_natCast];have Ak:=jW.wj (.refl _ _) hD (show bC p.lp.rel p.c1 i<k by omega) (show bV _ [_,_,_] _ from dZ.le jW.le);obtain⟨zs,hzz,hE⟩:=Ak.row;have FJ:=yp hE;refine ao (ae (aa 3 rfl (ab [1,2,4,5,8,13,14,15,16,18,19,23,84,85,86,157] ?_)));refine aD rfl (fun hb=> ?_) (fun hb=> ?_)
     ·
      have h3:(fw r).2.1=3:=by simpa using hb
      refine aA rfl (aa 3 rfl (aC rfl rfl (Fn.kq Ak.q.ne (BU ((bH.raw (dZ.le Ak.le)).mono nF) (by decide))) ?_));rintro v10 lW td;obtain⟨t10,rfl,nW⟩:=td.val;have Ah:=(td.kept.same z SZ.mJ).trans hzz;obtain⟨ti,aj,ak⟩:=aU;refine cV (.inl rfl) ag rfl rfl rfl (by omega) (by omega) (Ah) rfl (by show 0+k*3≤zs.length;omega) aj ak (fun _=>rfl) rfl rfl rfl fun _=> ?_;refine au ?_;rw[pe,Int.toNat_natCast];have yq:=Ak.wj td.kept hE (show bC p.lp.rel p.c1 i<k by omega) (show bV _ [_,_,_] _ from nW);refine ah [1,2,4,5,8,13,14,15,16,18,19,23,84,85,86] rfl ?_;refine aA rfl (aa 1 rfl (aF rfl rfl ⟨by omega,by omega⟩ (aa 1 rfl (au ?_))));rw[if_neg h2]at Hd
      exact⟨true,ar,by
       rw[akT]at yq
       unfold E7
       rw[if_neg h2,if_neg (by omega)];exact yq⟩
     have h3:¬(fw r).2.1=3:=by simpa using hb
     have h22:¬km (p.lp.rel i) (p.aI i)=2:=fun h=>h2 (dK.1 h);refine az (ah [1,2,4,5,8,13,14,15,16,18,19,23,84,85,86] rfl ?_);refine aA rfl (aa 1 rfl (aF rfl rfl ⟨by omega,by omega⟩ (aa 1 rfl (au ?_))));rw[if_neg h2]at Hd;exact⟨true,ar,by unfold E7;rw[if_neg h2,if_pos (by omega)];exact Ak⟩
    have h2:p.lp.rel i=2:=dK.1 (by rw[←cW];simpa using hb);refine az ?_;rw[if_pos h2]at Hd;exact⟨true,ar,by unfold E7;rw[if_pos h2];exact jW⟩
   rintro _ p7 Ni;obtain⟨akY,akZ,abd⟩:=Ni.row;have anR:=yp abd;refine kM (fun(b9:Bool)=>put (put (put (put (put (put (put (put (put (put (put (put (put (put (emp) 1 (.box [.slice Af p.free.length cf,.slice Ar p.rows.length cr])) 2 (.box [.slice none 0 0,.slice none 0 0])) 4 (.box [.bool t4.f,.slice t4.A1 t4.m1 t4.c1,.slice t4.A2 t4.m2 t4.c2])) 5 (.box [.bool t5.f,.slice t5.A1 t5.m1 t5.c1,.slice t5.A2 t5.m2 t5.c2])) 8 (.val (.int .i64 (p.af p.rows.length:Int)))) 13 (.val (.int .i64 (p.u:Int)))) 14 (.box [.slice G.Ar i G.cr,u])) 15 (.val (.int .i64 (bC p.lp.rel p.c1 (i+1):Int)))) 16 (.val (.int .i64 (a8 p.lp.rel p.aI p.u (i+1):Int)))) 19 (.val (.slice (some ⟨z,0,none⟩) k k))) 84 (.val (.slice A3 p.rows.length c3))) 85 (.val (.int .i64 (p.rows.length:Int)))) 86 (.val (.int .i64 (i:Int)))) 23 (.val (.int .i64 (p.unit i:Int)))) (fun(b9:Bool) H'=>SZ (la k (dN p i)) H3 H' G i k 0 (dN p) p.unit u ((List.range i).map p.unit) z) ?_ ?_
   ·
    refine ae (aa 3 rfl (ab [1,2,4,5,8,13,14,15,16,19,23,84,85,86,167] ?_));refine aD rfl (fun hb=> ?_) (fun hb=> ?_)
    ·
     have h4:¬(fw r).2.1=1:=by simpa using hb
     have h5:¬eY (p.lp.rel i) (p.aI i)=true:=fun h=>h4 (by have:=ho.1 h;omega);rw[if_neg h5]at abc;have pI:=vP h5;have hul:=nO p aP;refine ae (vr 4 ?_);obtain⟨ti,aj,ak⟩:=aU;refine cV (.inl rfl) ag rfl rfl rfl (by omega) (by omega) (akZ) rfl (by show 0+k*3≤akY.length;omega) aj ak (fun _=>rfl) rfl rfl rfl fun _=> ?_;refine aa 1 rfl (ab [1,2,4,5,8,13,14,15,16,19,23,84,85,86] ?_);rw[pe,Int.toNat_natCast];have Nj:=Ni.wj (.refl _ _) abd (show a8 p.lp.rel p.aI p.u i<k by omega) (show bV _ [_,_,_] _ from dZ.le Ni.le);refine aA rfl (aa 1 rfl (aF rfl rfl ⟨by omega,by omega⟩ (aa 1 rfl (au ?_))));exact⟨true,ar,by rw[aa9,if_neg (by omega)];exact Nj⟩
    have h4:(fw r).2.1=1:=by simpa using hb
    have h5:=ho.2 (by omega);rw[if_pos h5]at abc;have pI:=zz h5;refine az ?_;exact⟨true,ar,by rw[aa9,if_pos (by omega)];exact Ni⟩
   rintro _ E5 abe;obtain⟨anS,anT,anU⟩:=abe.row;refine eo .bJ [0,1,2,5,6,7,3,4,10,8,9,11,12,13] follows (by kernel_rfl) ?_;refine aa 6 rfl (cI Tryz.underlying84 AX rfl rfl rfl rfl rfl rfl rfl ?_);intro gb aV;have abf:=abe.fresh Aj (e:=whole [.slice (some ⟨z,0,none⟩) k k] 28) aV;refine dW Tryz.underlying84 AX rfl rfl abf.q.rows (ea _ _ _ _ _ _) rfl (B0 _ _ _) (by omega) (by omega) ?_;intro v8 Te nP;obtain⟨A9,c9,rfl⟩:=nP.own.form;have Tu:=abf.more (MY nP)
   replace Tu:=Tu.CF fun i' eX j' Mq=>show dN p i' j'=(if i'=i then dN p i else dN p i') j' by
    by_cases e9:i'=i
    ·rw[if_pos e9,e9]
    ·rw[if_neg e9]
   refine aa 1 rfl (cI Tryz.underlying49 fC rfl rfl rfl rfl rfl rfl rfl ?_);intro gc kB;have abg:=Tu.fresh (e:=whole [.int .i64 (p.unit i:Int)] 3) kB;refine dW Tryz.underlying49 fC rfl rfl abg.own (ea _ _ _ _ _ _) rfl (sN _) (by omega) (by omega) ?_;intro u9 zB uk;obtain⟨Au9,cu9,rfl⟩:=uk.own.form;have qZ:=abg.app rfl uk;rw[←aiM (f:=p.unit)]at qZ;obtain⟨ti,aj,ak⟩:=J7;refine aH (.inr rfl) rfl rfl rfl aj ak rfl rfl rfl (vr 1 ?_);obtain⟨ti,aj,ak⟩:=vc;refine aH (.inr rfl) rfl rfl rfl aj ak rfl rfl rfl (au (ah [1,2,4,5,8,13,14,15,16,84,85,86] rfl ?_));refine aA rfl (aF rfl rfl ⟨by omega,by omega⟩ (aa 1 rfl (au ?_)));exact⟨i+1,G.more G.top z _ A9 c9 i,_,by omega,ar,qZ,Tp,Nh,by omega⟩
  have aP:p.rows.length≤i:=by simpa using hb
  obtain rfl:i=p.rows.length:=by omega
  obtain⟨Au,cu,rfl⟩:=hU.own.form;have abh:=hU.fin Nh;refine aX (ah [2,13,14] rfl ?_);refine ae (vr 2 ?_);obtain⟨ti,aj,ak⟩:=Oh;refine aH (.inl ⟨rfl,rfl⟩) rfl rfl rfl aj ak rfl rfl rfl (aa 1 rfl (ab [2,3] ?_));obtain⟨bP,aL,aM⟩:=Oh;refine aB ⟨.inr rfl,_,.agg rfl Tryz.underlying86 aL aM (.tmp rfl (.nil)),?_⟩;exact⟨G.fin _,rfl,Tp,abh.1,aba.trans abh.2⟩
end Go.aq
namespace Go.aq
open Go.Proofs Num Lp
theorem abi{M:Nat→Nat→Rat}{B:Nat→Nat}{n m N:Nat}(hN:1≤N)(hz:∀i,i<m→aN (M i n)≤N)(j:Nat):∀i,i≤m→aN (iH M B n i j)≤N:=by
 intro i
 induction i with
 | zero=>intro _;exact Nat.le_trans MV hN
 | succ i ih=>
  intro hi
  unfold iH
  by_cases e:j=B i
  ·rw[e,jt];exact hz i (by omega)
  ·rw[eJ e];exact ih (by omega)
theorem ak0{p:Prg}{a:Nat→Rat}{N:Nat}(h:∀j,aN (a j)≤N)(j:Nat):aN (jG p a j)≤2*N+1:=by
 unfold jG
 have h1:=h j
 have h2:=h (p.mi j)
 have h3:=rU (a j) (a (p.mi j))
 split <;> omega
theorem Jf{H H':Heap}{z:Nat}{e:Ent}(hz:H z=none)(hl:Heap.le H H'):Heap.le H (ins H' z e):=fun q en hq=>by
 obtain⟨Ek,h1,h2⟩:=hl q en hq
 exact⟨Ek,by rw[bg _ _ (fun(e':q=z)=>by rw[e',hz]at hq;cases hq)];exact h1,h2⟩
theorem ak1{H:Heap}{G:GG}{R W m N N1:Nat}{M:Nat→Nat→Rat}{B:Nat→Nat}{p:Prg}{pv cv:Value}{c:List Rat}(h:cA iG H G R W m M B)(Sj:m≤R)(hp:m7 N (rem H G.gs) pv p)(hc:aQ (dI N) 3 (rem H G.gs) cv c)(fh:c.length=p.free.length)(s6:p.c1≤W)(hB:∀i,i<m→B i<W)(hR:(R:Int)≤900000)(hW:(W:Int)≤1000000)(hN:(N:Int)≤400000000)(hN1:(N1:Int)≤300000000000)(hz:∀i,i≤m→∀k,k<W→aN (lC M B (fa p (fn c) 1 p.lp.n) i k)≤N1)(yh:∀i,i<m→∀k,k<W→aN (M i k)≤N1):
 Fn Tryz.prog 59 #[pv,cv,.agg #[.slice G.Ar R G.cr,G.bv],.int .i64 (W:Int)] H (fun v H'=>∃z,v = .slice (some ⟨z,0,none⟩) W W∧SZ (la W (lC M B (fa p (fn c) 1 p.lp.n) m)) (rem H G.gs) H' G R W m M B (.slice none 0 0) [] z∧Heap.le H H'):=by
 obtain⟨fv,kE,rfl,ng,nh⟩:=id hp
 obtain⟨Af,cf,xf,rfl,pX,pY⟩:=ng.one
 obtain⟨Ar,cr,xr,rfl,qm,kF,sP⟩:=id nh
 obtain⟨Ab,cb,du,fG⟩:=h.s9
 rw[du]
 have dt:=yd (p:=p)
 have hpn:p.lp.n=p.free.length:=rfl
 have SC:p.free.length≤W:=Nat.le_trans dt s6
 obtain⟨Ac,cc,xc,rfl,L3,nK,tU⟩:=id hc;refine aZ (args:=[_,_,_,_]) Tryz.func59 rfl rfl Tryz.ntmps59 rfl rfl fun w0=> ?_;refine ah [0,1,2,3] rfl ?_;refine ae (bY rfl rfl (bY rfl rfl (aa 1 rfl (ab [1,3,4,6] ?_))));refine ae (aa 1 rfl (gP Tryz.underlying28 bQ rfl rfl rfl (by omega) (by omega) (by omega) (by omega) ?_));intro z jd;rw[Int.toNat_natCast];have CO:=h.gu.start (C:=lD W (fun _=>0) 0) (xs:=dd [.bool false,.slice none 0 0,.slice none 0 0] (W*3)) jd Nf;refine aa 1 rfl (ab [1,4,6,9] ?_);refine ao (ae (aa 3 rfl (ab [1,4,6,9,19,20] ?_)));refine aE (fY (fun(k:Nat)=>W-k) (fun(k:Nat)=>put (put (put (put (put (put (emp) 1 (.val (.slice Ac c.length cc))) 4 (.box [.slice Af p.free.length cf,.slice Ar p.rows.length cr])) 6 (.box [.slice G.Ar R G.cr,.slice Ab m cb])) 9 (.val (.slice (some ⟨z,0,none⟩) W W))) 19 (.val (.int .i64 (W:Int)))) 20 (.val (.int .i64 (k:Int)))) (fun(k:Nat) H'=>SZ (lD W (fun _=>0) k) (rem H G.gs) H' G R W m M B (.slice none 0 0) [] z∧k≤W∧Heap.le H H') 0 (⟨CO,Nat.zero_le _,Heap.bG _ jd⟩) ar ?_);rintro k H2 ⟨hS,hk,eE⟩;obtain⟨xs,hx,hC⟩:=hS.row;have cZ:=Jd hC hk;refine ae (aa 1 rfl (ab [1,4,6,9,19,20,21] ?_))
 refine ao (aD rfl (fun hb=> ?_) (fun hb=> ?_))
 ·
  have fi:k<W:=by simpa using hb
  refine az (ah [1,4,6,9,19,20] rfl ?_);refine ao (aE (ae (aa 2 rfl (ab [1,4,6,9,10,19,20] ?_))));refine aA rfl (aa 2 rfl (aC rfl rfl (Fn.kq hS.q.ne (oU (n:=0) (by decide) (by decide))) ?_));rintro v8 H8 gh;obtain⟨t8,rfl,eQ⟩:=gh.val;rw[show ((0:Int):Rat)=0 from rfl]at eQ;have rh:=(gh.kept.same z SZ.mJ).trans hx;obtain⟨ti,aj,ak⟩:=aU;refine cV (.inl rfl) ag rfl rfl rfl (by omega) (by omega) (rh) rfl (by show 0+W*3≤xs.length;omega) aj ak (fun _=>rfl) rfl rfl rfl fun _=> ?_;refine au ?_;rw[pe,Int.toNat_natCast];have jW:=hS.set gh.kept (Nc (Tn _ _ _ gh.kept.le hC) fi (show bV _ [_,_,_] _ from eQ));refine ah [1,4,6,9,19,20] rfl ?_;refine aA rfl (aF rfl rfl ⟨by omega,by omega⟩ (aa 1 rfl (au ?_)));exact⟨k+1,by omega,ar,jW,by omega,Jf jd (eE.trans gh.le)⟩
 ·
  have fi:W≤k:=by simpa using hb
  obtain ek:k=W:=by omega
  rw[ek]at hS;have CP:=hS.to (C':=la W (fa p (fn c) 1 0)) fun _ h=>Nd h;refine aX (ah [1,4,6,9] rfl ?_);refine ae (aa 4 rfl (ab [1,4,6,9,11] ?_));refine ao (ae (aa 4 rfl (ab [1,4,6,9,11,33,34] ?_)));refine aE (fY (fun(j:Nat)=>p.free.length-j) (fun(j:Nat)=>put (put (put (put (put (put (put (emp) 1 (.val (.slice Ac c.length cc))) 4 (.box [.slice Af p.free.length cf,.slice Ar p.rows.length cr])) 6 (.box [.slice G.Ar R G.cr,.slice Ab m cb])) 9 (.val (.slice (some ⟨z,0,none⟩) W W))) 11 (.val (.int .i64 (p.mi j:Int)))) 33 (.val (.int .i64 (p.free.length:Int)))) 34 (.val (.int .i64 (j:Int)))) (fun(j:Nat) H'=>SZ (la W (fa p (fn c) 1 j)) (rem H G.gs) H' G R W m M B (.slice none 0 0) [] z∧j≤p.free.length∧Heap.le H H') 0 (⟨CP,Nat.zero_le _,eE⟩) (by repeat (first | exact iJ _ | refine dA rfl ?_ | refine dA (iX (by first | omega | (simp;done) | rfl)) ?_)) ?_);rintro j H3 ⟨hS,hj,eE⟩;obtain⟨xs,hx,hC⟩:=hS.row;have cZ:=yp hC;refine ae (aa 1 rfl (ab [1,4,6,9,11,33,34,35] ?_));refine ao (aD rfl (fun hb=> ?_) (fun hb=> ?_))
  ·
   have gN:j<p.free.length:=by simpa using hb
   obtain⟨uf,qM,kn⟩:=pY j _ (List.getElem?_eq_getElem gN);have kn: [uf] = [Value.bool p.free[j]]:=kn
   cases kn
   have jF:p.lp.free j=p.free[j]:=Prg.Bu (List.getElem?_eq_getElem gN);obtain⟨g6,G1,n1,o1,G2,n2,o2,SP,wg,Ts⟩:=aQ.Cj tU (show c[j]? = some (fn c j*1) by rw[Rat.mul_one,List.getElem?_eq_getElem (by omega),oN (List.getElem?_eq_getElem (by omega))]);have Tt:=wg.size;have aat:=MM (p:=p) (j:=j);refine az (ah [1,4,6,9,11,33,34] rfl ?_);refine ao (aE (ae (aa 2 rfl (ab [1,4,6,9,11,12,33,34] ?_))));refine ae (aa 4 rfl (cj (vs:=[.bool g6,.slice G1 n1 o1,.slice G2 n2 o2]) ag rfl rfl rfl rfl (nK.le (hS.le.trans (bD _ _))) rfl (by decide) Ts (by omega) (by omega) fun _=>(aC rfl rfl (Fn.kq hS.q.ne (tY (wg.le hS.le) (by omega))) ?_)));rintro v8 H8 gh;obtain⟨t8,rfl,eQ⟩:=gh.val;have rh:=(gh.kept.same z SZ.mJ).trans hx;obtain⟨ti,aj,ak⟩:=aU;refine cV (.inl rfl) ag rfl rfl rfl (by omega) (by omega) (rh) rfl (by show 0+W*3≤xs.length;omega) aj ak (fun _=>rfl) rfl rfl rfl fun _=> ?_;refine ab [1,4,6,9,11,12,33,34] ?_;rw[pe,Int.toNat_natCast];have jW:=hS.wj gh.kept hC (show j<W by omega) (show bV _ [_,_,_] _ from eQ);refine ae (aa 3 rfl (aS ag rfl rfl rfl rfl rfl (pX.le (jW.le.trans (bD _ _))) (by rw[Int.toNat_natCast];exact qM) (by omega) (by omega) fun _=> ?_))
   refine ab [1,4,6,9,11,12,33,34,49] ?_;refine aD rfl (fun hb=> ?_) (fun hb=> ?_)
   ·
    have fL:p.lp.free j=true:=by rw[jF];simpa using hb
    have ye:p.mi j<W:=Nat.lt_of_lt_of_le (wb (p:=p) (j:=j) gN fL) s6;obtain⟨ys,hy,hD⟩:=jW.row;have kK:=yp hD;obtain⟨t9,yl,GB⟩:=l5 hD (show j<W by omega);rw[jt]at yl;have we:aN (fn c j*1)≤N+2:=Tt;refine ae (aa 4 rfl (cj (vs:=[.bool t9.f,.slice t9.A1 t9.m1 t9.c1,.slice t9.A2 t9.m2 t9.c2]) ag rfl rfl rfl rfl (dQ hy) rfl (by decide) (by rw[Int.toNat_natCast];exact GB) (by omega) (by omega) fun _=> ?_));refine aC rfl rfl (Fn.kq jW.q.ne (BU ((bH.raw yl).mono we) (by omega))) ?_;rintro v10 lW td;obtain⟨t10,rfl,nW⟩:=td.val;have Ah:=(td.kept.same z SZ.mJ).trans hy;obtain⟨ti,aj,ak⟩:=aU;refine cV (.inl rfl) ag rfl rfl rfl (by omega) (by omega) (Ah) rfl (by show 0+W*3≤ys.length;omega) aj ak (fun _=>rfl) rfl rfl rfl fun _=> ?_;refine ab [1,4,6,9,11,33,34] ?_;rw[pe,Int.toNat_natCast];have yq:=jW.wj td.kept hD ye (show bV _ [_,_,_] _ from nW);refine aA rfl (aa 1 rfl (aF rfl rfl ⟨by omega,by omega⟩ (aa 1 rfl (au (ah [1,4,6,9,11,33,34] rfl ?_)))));refine aA rfl (aF rfl rfl ⟨by omega,by omega⟩ (aa 1 rfl (au ?_)))
    have e8:p.mi (j+1)=p.mi j+1:=by rw[wc,if_pos fL]
    exact⟨j+1,by omega,ar,by unfold fa;rw[if_pos fL];exact yq,by omega,Jf jd ((Jf jd (eE.trans gh.le)).trans td.le)⟩
   have fL:¬p.lp.free j=true:=by rw[jF];simpa using hb
   refine az (ah [1,4,6,9,11,33,34] rfl ?_);refine aA rfl (aF rfl rfl ⟨by omega,by omega⟩ (aa 1 rfl (au ?_)))
   have e8:p.mi (j+1)=p.mi j:=by rw[wc,if_neg fL,Nat.add_zero]
   exact⟨j+1,by omega,ar,by unfold fa;rw[if_neg fL];exact jW,by omega,Jf jd (eE.trans gh.le)⟩
  have gN:p.free.length≤j:=by simpa using hb
  obtain rfl:j=p.free.length:=by omega
  refine aX (ah [6,9] rfl ?_);refine ao (ae (aa 4 rfl (ab [6,9,63,64] ?_)));refine aE (gn (fun(i:Nat)(f:Nat→Rat)=>m-i) (fun(i:Nat)(f:Nat→Rat)=>put (put (put (put (emp) 6 (.box [.slice G.Ar R G.cr,.slice Ab m cb])) 9 (.val (.slice (some ⟨z,0,none⟩) W W))) 63 (.val (.int .i64 (m:Int)))) 64 (.val (.int .i64 (i:Int)))) (fun(i:Nat)(f:Nat→Rat) H'=>SZ (la W f) (rem H G.gs) H' G R W m M B (.slice none 0 0) [] z∧(∀q,q<W→f q=lC M B (fa p (fn c) 1 p.lp.n) i q)∧i≤m∧Heap.le H H') 0 (fa p (fn c) 1 p.lp.n) (⟨hS,fun _ _=>rfl,Nat.zero_le _,eE⟩) ar ?_);rintro i f H4 ⟨hZ,hI,hi,eE⟩;obtain⟨zs,qh,sR⟩:=hZ.row;refine ae (aa 1 rfl (ab [6,9,63,64,65] ?_));refine ao (aD rfl (fun hb=> ?_) (fun hb=> ?_))
  ·
   have aP:i<m:=by simpa using hb
   have uN:=hB i aP;obtain⟨t4,Nk,oB⟩:=l5 sR uN;have I3:=hz i hi (B i) uN;rw[←hI _ uN]at I3;obtain⟨pi,cU⟩:=h.get (show i<R by omega);refine az (ah [6,9,63,64] rfl ?_);refine ao (aE (ae (aa 2 rfl (ab [6,9,13,63,64] ?_))));refine ae (aa 4 rfl (aS ag rfl rfl rfl rfl rfl (fG hZ.q i aP) (by rw[Int.toNat_natCast];exact gI aP) (by omega) (by omega) fun _=> ?_));refine cj (vs:=[.bool t4.f,.slice t4.A1 t4.m1 t4.c1,.slice t4.A2 t4.m2 t4.c2]) ag rfl rfl rfl rfl (dQ qh) rfl (by decide) (by rw[Int.toNat_natCast];exact oB) (by omega) (by omega) fun _=> ?_;refine bh bQ rfl ?_;obtain⟨ti,aj,ak⟩:=aU;refine aH (.inl ⟨rfl,rfl⟩) rfl rfl rfl aj ak rfl rfl rfl (ab [6,9,13,14,63,64] ?_);refine ao (ae (aa 1 rfl (aC rfl rfl (Fn.lR hZ.q.ne (xK (bH.raw Nk) (by omega))) ?_)));rintro v5 H5 ⟨mu,eI,rfl⟩;have qa:=hZ.kept Aj mu;have xx:=Nk.le mu.le;refine aa 1 rfl (ab [6,9,13,14,63,64,77] ?_);refine aD rfl (fun hb=> ?_) (fun hb=> ?_)
   ·
    skip
    refine aX (ah [6,9,63,64] rfl ?_);refine aA rfl (aF rfl rfl ⟨by omega,by omega⟩ (aa 1 rfl (au ?_)))
    exact⟨i+1,f,by omega,ar,qa,fun q hq=>by
     rw[aas (by rw[←hI _ uN];exact vD (by simpa using hb))];exact hI q hq,by omega,eE.trans eI⟩
   have SY:=qa.vU;refine az (ah [6,9,13,14,63,64] rfl ?_);refine ae (aa 3 rfl (ab [6,9,13,14,63,64,79,80] ?_));refine aE (gn (fun(q:Nat)(f2:Nat→Rat)=>W-q) (fun(q:Nat)(f2:Nat→Rat)=>put (put (put (put (put (put (put (put (emp) 6 (.box [.slice G.Ar R G.cr,.slice Ab m cb])) 9 (.val (.slice (some ⟨z,0,none⟩) W W))) 13 (.val (.int .i64 (i:Int)))) 14 (.box [.bool t4.f,.slice t4.A1 t4.m1 t4.c1,.slice t4.A2 t4.m2 t4.c2])) 63 (.val (.int .i64 (m:Int)))) 64 (.val (.int .i64 (i:Int)))) 79 (.val (.int .i64 (W:Int)))) 80 (.val (.int .i64 (q:Int)))) (fun(q:Nat)(f2:Nat→Rat) H'=>SZ (la W f2) (rem H5 (G.on (z::(aw (.slice none 0 0)++G.top))).gs) H' G R W m M B (.slice none 0 0) [] z∧(∀j,f2 j=if j<q then f j-f (B i)*M i j else f j)∧q≤W∧Heap.le H H') 0 f (⟨SY,fun j=>by rw[if_neg (Nat.not_lt_zero _)],Nat.zero_le _,eE.trans eI⟩) ar ?_);rintro q f2 H6 ⟨hY,Tv,ie,eE⟩;obtain⟨ws,s7,nC⟩:=hY.row;obtain⟨xi6,si6,SF,SG⟩:=hY.q.rb (G:=G.on _) cU;have pH:=yp nC;refine ae (aa 1 rfl (ab [6,9,13,14,63,64,79,80,81] ?_));refine ao (aD rfl (fun hb=> ?_) (fun hb=> ?_))
   ·
    have s8:q<W:=by simpa using hb
    obtain⟨t5,abj,lS⟩:=l5 nC s8;obtain⟨t6,zj,qC⟩:=l5 SG s8
    have e5:f2 q=f q:=by rw[Tv q,if_neg (by omega)]
    rw[e5]at abj;have uc:=hz i hi q s8;rw[←hI _ s8]at uc;have ue:=yh i aP q s8;have E0:=vx (f (B i)) (M i q);refine az (ah [6,9,13,14,63,64,79,80] rfl ?_);refine ao (aE (ae (aa 2 rfl (ab [6,9,13,14,15,63,64,79,80] ?_))));refine eo .gB [0,1,2,3,4,5,6,7,8,9,10,11,12,13,14,15,16,17,18] follows (gL [0,0,0,0,12,28,0,0,128,0,896,1920,0,8064,16256,32704,65532,131071,262143] (by kernel_rfl)) ?_;refine aa 4 rfl (cj (vs:=[.bool t5.f,.slice t5.A1 t5.m1 t5.c1,.slice t5.A2 t5.m2 t5.c2]) ag rfl rfl rfl rfl (dQ s7) rfl (by decide) (by rw[Int.toNat_natCast];exact lS) (by omega) (by omega) fun _=> ?_);refine aa 4 rfl (aS ag rfl rfl rfl rfl rfl (hY.q.hd) (by rw[Int.toNat_natCast];exact kj (rg:=G.rg) (W:=_) cU) (by omega) (by omega) fun _=> ?_);refine aa 1 rfl (cj (vs:=[.bool t6.f,.slice t6.A1 t6.m1 t6.c1,.slice t6.A2 t6.m2 t6.c2]) ag rfl rfl rfl rfl (dQ SF) rfl (by decide) (by rw[Int.toNat_natCast];exact qC) (by omega) (by omega) fun _=> ?_);refine aY rfl rfl (Fn.kq hY.q.ne (Lx (N:=N1) ((bH.raw (xx.le hY.le)).mono I3) ((bH.raw zj).mono ue) (by omega))) (fun _ _ h=>by first | exact h.le | exact h.1) ?_;rintro v7 H7 E9;obtain⟨t7,rfl,jf⟩:=E9.val;have hY7:=hY.kept Aj E9.kept
    refine aY rfl rfl (Fn.kq hY7.q.ne (Ej (N:=2*N1) ((bH.raw (abj.le E9.kept.le)).mono (by omega)) ((bH.raw jf).mono (by omega)) (by omega))) (fun _ _ h=>by first | exact h.le | exact h.1) ?_;rintro v8 H8 gh;obtain⟨t8,rfl,eQ⟩:=gh.val;have SH:=(gh.kept.same z SZ.mJ).trans ((E9.kept.same z SZ.mJ).trans s7);obtain⟨ti,aj,ak⟩:=aU;refine cV (.inr rfl) ag rfl rfl rfl (by omega) (by omega) (SH) rfl (by show 0+W*3≤ws.length;omega) aj ak (fun _=>rfl) rfl rfl rfl fun _=> ?_;refine au ?_;rw[pe,Int.toNat_natCast];have SI:=hY7.wj gh.kept (Aj _ _ _ E9.kept.le nC) s8 (show bV _ [_,_,_] _ from eQ);refine ah [6,9,13,14,63,64,79,80] rfl ?_;refine aA rfl (aF rfl rfl ⟨by omega,by omega⟩ (aa 1 rfl (au ?_)))
    exact⟨q+1,bZ f2 q (f q-f (B i)*M i q),by omega,ar,SI,fun j=>by
     by_cases ej:j=q
     ·
      subst ej;rw[qX,if_pos (by omega)]
     ·
      rw[pa ej,Tv j]
      by_cases hj:j<q
      ·rw[if_pos hj,if_pos (by omega)]
      ·rw[if_neg hj,if_neg (by omega)],by omega,Jf jd ((eE.trans E9.le).trans gh.le)⟩
   have s8:W≤q:=by simpa using hb
   obtain rfl:q=W:=by omega
   refine aX (ah [6,9,63,64] rfl ?_);refine aA rfl (aF rfl rfl ⟨by omega,by omega⟩ (aa 1 rfl (au ?_)))
   exact⟨i+1,f2,by omega,ar,hY.down qa.le,fun q hq=>by
    rw[Tv q,if_pos hq,hI q hq,hI _ uN];rfl,by omega,eE⟩
  have aP:m≤i:=by simpa using hb
  obtain rfl:i=m:=by omega
  refine aX (ah [9] rfl ?_);refine ae (aa 2 rfl (ab [8] ?_));refine aB ⟨.inr rfl,_,.tmp rfl (.nil),?_⟩;exact⟨z,rfl,hZ.to fun xs hx=>by show bA _ _ _ _;rw[←ln (f:=f) (fun j hj=>hI j hj)];exact hx,eE⟩
theorem ak2{H:Heap}{G:GG}{R W m N N1:Nat}{M:Nat→Nat→Rat}{B:Nat→Nat}{p:Prg}{pv:Value}(h:cA iG H G R W m M B)(Sj:m≤R)(hp:m7 N (rem H G.gs) pv p)(s6:p.c1≤W)(hW1:1≤W)(hB:∀i,i<m→B i<W)(hR:(R:Int)≤900000)(hW:(W:Int)≤1000000)(hN1:(N1:Int)≤300000000000)(h1N:1≤N1)(yh:∀i,i<m→aN (M i (W-1))≤N1):
 Fn Tryz.prog 60 #[pv,.agg #[.slice G.Ar R G.cr,G.bv],.int .i64 (W:Int)] H (fun v H'=>Heap.le H H'∧aQ bV 3 H' v (aK (jG p (iH M B (W-1) m)) p.free.length)):=by
 obtain⟨fv,kE,rfl,ng,nh⟩:=id hp
 obtain⟨Af,cf,xf,rfl,pX,pY⟩:=ng.one
 obtain⟨Ar,cr,xr,rfl,qm,kF,sP⟩:=id nh
 obtain⟨Ab,cb,du,fG⟩:=h.s9
 rw[du]
 have dt:=yd (p:=p)
 have hpn:p.lp.n=p.free.length:=rfl
 have SC:p.free.length≤W:=Nat.le_trans dt s6
 have cP:=abi (B:=B) (n:=W-1) h1N yh;refine aZ (args:=[_,_,_]) Tryz.func60 rfl rfl Tryz.ntmps60 rfl rfl fun w0=> ?_;refine ah [0,1,2] rfl ?_;refine ae (bY rfl rfl (bY rfl rfl (aa 1 rfl (ab [2,3,4] ?_))));refine ae (aa 1 rfl (gP Tryz.underlying28 bQ rfl rfl rfl (by omega) (by omega) (by omega) (by omega) ?_));intro z jd;rw[Int.toNat_natCast];have CO:=h.gu.start (C:=lD W (fun _=>0) 0) (xs:=dd [.bool false,.slice none 0 0,.slice none 0 0] (W*3)) jd Nf;have tX:Heap.le H (ins H z ⟨dd [.bool false,.slice none 0 0,.slice none 0 0] (W*3),W*3,38,true⟩):=Heap.bG _ jd;refine aa 1 rfl (ab [2,3,4,7] ?_);refine ao (ae (aa 3 rfl (ab [2,3,4,7,17,18] ?_)));refine aE (fY (fun(k:Nat)=>W-k) (fun(k:Nat)=>put (put (put (put (put (put (emp) 2 (.val (.int .i64 (W:Int)))) 3 (.box [.slice Af p.free.length cf,.slice Ar p.rows.length cr])) 4 (.box [.slice G.Ar R G.cr,.slice Ab m cb])) 7 (.val (.slice (some ⟨z,0,none⟩) W W))) 17 (.val (.int .i64 (W:Int)))) 18 (.val (.int .i64 (k:Int)))) (fun(k:Nat) H'=>SZ (lD W (fun _=>0) k) (rem H G.gs) H' G R W m M B (.slice none 0 0) [] z∧k≤W∧∀q,q∈G.gs→H' q=H q) 0 (⟨CO,Nat.zero_le _,fun q hq=>bg _ _ fun(e:q=z)=>h.ne q hq (by rw[e];exact jd)⟩) ar ?_)
 rintro k H2 ⟨hS,hk,wD⟩;obtain⟨xs,hx,hC⟩:=hS.row;have cZ:=Jd hC hk;refine ae (aa 1 rfl (ab [2,3,4,7,17,18,19] ?_));refine ao (aD rfl (fun hb=> ?_) (fun hb=> ?_))
 ·
  have fi:k<W:=by simpa using hb
  refine az (ah [2,3,4,7,17,18] rfl ?_);refine ao (aE (ae (aa 2 rfl (ab [2,3,4,7,8,17,18] ?_))));refine aA rfl (aa 2 rfl (aC rfl rfl (Fn.kq hS.q.ne (oU (n:=0) (by decide) (by decide))) ?_));rintro v8 H8 gh;obtain⟨t8,rfl,eQ⟩:=gh.val;rw[show ((0:Int):Rat)=0 from rfl]at eQ;have rh:=(gh.kept.same z SZ.mJ).trans hx;obtain⟨ti,aj,ak⟩:=aU;refine cV (.inl rfl) ag rfl rfl rfl (by omega) (by omega) (rh) rfl (by show 0+W*3≤xs.length;omega) aj ak (fun _=>rfl) rfl rfl rfl fun _=> ?_;refine au ?_;rw[pe,Int.toNat_natCast];have jW:=hS.set gh.kept (Nc (Tn _ _ _ gh.kept.le hC) fi (show bV _ [_,_,_] _ from eQ));refine ah [2,3,4,7,17,18] rfl ?_;refine aA rfl (aF rfl rfl ⟨by omega,by omega⟩ (aa 1 rfl (au ?_)));exact⟨k+1,by omega,ar,jW,by omega,fun q hq=>by rw[bg _ _ (hS.zne hq),gh.kept.same q (List.mem_cons_of_mem _ hq)];exact wD q hq⟩
 ·
  have fi:W≤k:=by simpa using hb
  obtain ek:k=W:=by omega
  rw[ek]at hS;have CP:=hS.to (C':=la W (iH M B (W-1) 0)) fun _ h=>Nd h;refine aX (ah [2,3,4,7] rfl ?_);refine ao (ae (aa 4 rfl (ab [2,3,4,7,28,29] ?_)));refine aE (fY (fun(i:Nat)=>m-i) (fun(i:Nat)=>put (put (put (put (put (put (emp) 2 (.val (.int .i64 (W:Int)))) 3 (.box [.slice Af p.free.length cf,.slice Ar p.rows.length cr])) 4 (.box [.slice G.Ar R G.cr,.slice Ab m cb])) 7 (.val (.slice (some ⟨z,0,none⟩) W W))) 28 (.val (.int .i64 (m:Int)))) 29 (.val (.int .i64 (i:Int)))) (fun(i:Nat) H'=>SZ (la W (iH M B (W-1) i)) (rem H G.gs) H' G R W m M B (.slice none 0 0) [] z∧i≤m∧∀q,q∈G.gs→H' q=H q) 0 (⟨CP,Nat.zero_le _,wD⟩) ar ?_);rintro i H3 ⟨hS,hi,wD⟩;obtain⟨xs,hx,hC⟩:=hS.row;have cZ:=yp hC;refine ae (aa 1 rfl (ab [2,3,4,7,28,29,30] ?_));refine ao (aD rfl (fun hb=> ?_) (fun hb=> ?_))
  ·
   have aP:i<m:=by simpa using hb
   have uN:=hB i aP;obtain⟨pi,cU⟩:=h.get (show i<R by omega);obtain⟨xi,si,sY,ya⟩:=hS.q.rb (G:=G.on _) cU;obtain⟨t4,Nk,oB⟩:=l5 ya (show W-1<W by omega);refine az (ah [2,3,4,7,28,29] rfl ?_);refine ao (aE (ae (aa 2 rfl (ab [2,3,4,7,9,28,29] ?_))));refine eo .gB [0,1,2,3,4,5,6,7,8,9,10,11,12,13,14,15,16] follows (gL [0,0,2,0,14,30,0,64,0,448,960,0,2048,8128,16320,32767,65535] (by kernel_rfl)) ?_;refine aa 4 rfl (aS ag rfl rfl rfl rfl rfl (fG hS.q i aP) (by rw[Int.toNat_natCast];exact gI aP) (by omega) (by omega) fun _=> ?_);refine aa 3 rfl (aS ag rfl rfl rfl rfl rfl (hS.q.hd) (by rw[Int.toNat_natCast];exact kj (rg:=G.rg) (W:=_) cU) (by omega) (by omega) fun _=> ?_);refine aa 1 rfl (cQ rfl rfl ⟨by omega,by omega⟩ (cj (vs:=[.bool t4.f,.slice t4.A1 t4.m1 t4.c1,.slice t4.A2 t4.m2 t4.c2]) ag rfl rfl rfl rfl (dQ sY) rfl (by decide) (by rw[show ((W:Int)-1).toNat=W-1 by omega];exact oB) (by omega) (by omega) fun _=> ?_));obtain⟨ti,aj,ak⟩:=aU;refine cV (.inr rfl) ag rfl rfl rfl (by omega) (by omega) (hx) rfl (by show 0+W*3≤xs.length;omega) aj ak (fun _=>rfl) rfl rfl rfl fun _=> ?_;refine au ?_;rw[pe,Int.toNat_natCast];have jW:=hS.wj (.refl _ _) hC uN (show bV _ [_,_,_] _ from Nk)
   refine ah [2,3,4,7,28,29] rfl ?_;refine aA rfl (aF rfl rfl ⟨by omega,by omega⟩ (aa 1 rfl (au ?_)));exact⟨i+1,by omega,ar,jW,by omega,fun q hq=>by rw[bg _ _ (hS.zne hq)];exact wD q hq⟩
  have aP:m≤i:=by simpa using hb
  obtain rfl:i=m:=by omega
  have CE:Rd H3 (some ⟨z,0,none⟩) xs:=dQ hx;have hE:la W (iH M B (W-1) i) H3 xs:=Aj _ _ _ (bD _ _) hC;have cM:Heap.le (rem H G.gs) H3:=hS.le.trans (bD _ _)
  have SK:Heap.le H H3:=fun q en hq=>by
   by_cases hm:q∈G.gs
   ·exact⟨en,by rw[wD q hm];exact hq,.refl _⟩
   ·exact cM q en (by rw[bL hm];exact hq)
  have sq:=fun j=>cP j i (Nat.le_refl _);refine aX (ah [3,7] rfl ?_);refine ae (aa 3 rfl (gP Tryz.underlying28 bQ rfl rfl rfl (by omega) (by omega) (by omega) (by omega) ?_));intro gx lO;have z7:=Mi (P:=bV) (e:=38) (sz:=3) (zs:=[.bool false,.slice none 0 0,.slice none 0 0]) (z:=0) (k:=(p.free.length:Int)) (c:=p.free.length) lO rfl (Int.toNat_natCast _) (by unfold maxLen;omega);rw[Int.toNat_natCast]at z7⊢;refine aa 1 rfl (ab [3,7,10] ?_);refine ae (aa 4 rfl (ab [3,7,10,11] ?_));refine ao (ae (aa 4 rfl (ab [3,7,10,11,58,59] ?_)));refine aE (fB (fun(j:Nat)(w:Value)(ws:List Value)=>p.free.length-j) (fun(j:Nat)(w:Value)(ws:List Value)=>put (put (put (put (put (put (emp) 3 (.box [.slice Af p.free.length cf,.slice Ar p.rows.length cr])) 7 (.val (.slice (some ⟨z,0,none⟩) W W))) 10 (.val (w))) 11 (.val (.int .i64 (p.mi j:Int)))) 58 (.val (.int .i64 (p.free.length:Int)))) 59 (.val (.int .i64 (j:Int)))) (fun(j:Nat)(w:Value)(ws:List Value) H'=>dU bV 38 3 H3 H' w (aK (jG p (iH M B (W-1) i)) j) ws∧j≤p.free.length) 0 _ _ (⟨z7,Nat.zero_le _⟩) (by repeat (first | exact iJ _ | refine dA rfl ?_ | refine dA (iX (by first | omega | (simp;done) | rfl)) ?_)) ?_);rintro j w ws H5 ⟨hG,hj⟩
  obtain⟨A5,c5,e5⟩:=hG.form;rw[bB]at e5;subst e5;refine ae (aa 1 rfl (ab [3,7,10,11,58,59,60] ?_));refine ao (aD rfl (fun hb=> ?_) (fun hb=> ?_))
  ·
   have gN:j<p.free.length:=by simpa using hb
   obtain⟨t6,zj,qC⟩:=l5 hE (show j<W by omega);obtain⟨uf,qM,kn⟩:=pY j _ (List.getElem?_eq_getElem gN);have kn: [uf] = [Value.bool p.free[j]]:=kn
   cases kn
   have jF:p.lp.free j=p.free[j]:=Prg.Bu (List.getElem?_eq_getElem gN);have ue:=sq j;refine az (ah [3,7,10,11,58,59] rfl ?_);refine ao (aE (ae (aa 2 rfl (ab [3,7,10,11,12,58,59] ?_))));refine ae (aa 2 rfl (cj (vs:=[.bool t6.f,.slice t6.A1 t6.m1 t6.c1,.slice t6.A2 t6.m2 t6.c2]) ag rfl rfl rfl rfl (CE.le hG.le) rfl (by decide) (by rw[Int.toNat_natCast];exact qC) (by omega) (by omega) fun _=> ?_));refine bh bQ rfl ?_;obtain⟨ti,aj,ak⟩:=aU;refine aH (.inl ⟨rfl,rfl⟩) rfl rfl rfl aj ak rfl rfl rfl (ab [3,7,10,11,12,13,58,59] ?_);refine AW (fun(t:RC)(a:Nat)=>put (put (put (put (put (put (put (emp) 3 (.box [.slice Af p.free.length cf,.slice Ar p.rows.length cr])) 7 (.val (.slice (some ⟨z,0,none⟩) W W))) 10 (.val (.slice A5 j c5))) 11 (.val (.int .i64 (a:Int)))) 13 (.box [.bool t.f,.slice t.A1 t.m1 t.c1,.slice t.A2 t.m2 t.c2])) 58 (.val (.int .i64 (p.free.length:Int)))) 59 (.val (.int .i64 (j:Int)))) (fun(t:RC)(a:Nat) H'=>dU bV 38 3 H3 H' (.slice A5 j c5) (aK (jG p (iH M B (W-1) i)) j) ws∧a=p.mi (j+1)∧bH (rem H' (aw (.slice A5 j c5))) t.v (jG p (iH M B (W-1) i) j)) ?_ ?_
   ·
    refine ae (aa 3 rfl (aS ag rfl rfl rfl rfl rfl (pX.le (cM.trans hG.le)) (by rw[Int.toNat_natCast];exact qM) (by omega) (by omega) fun _=> ?_));refine ab [3,7,10,11,13,58,59,70] ?_;refine aD rfl (fun hb=> ?_) (fun hb=> ?_)
    ·
     have fL:p.lp.free j=true:=by rw[jF];simpa using hb
     have ye:p.mi j<W:=Nat.lt_of_lt_of_le (wb gN fL) s6;obtain⟨t7,sV,sW⟩:=l5 hE ye;have E0:=sq (p.mi j);refine bM .bJ [0,1,2,3,4,5,6] follows (by kernel_rfl) ?_;refine aa 3 rfl (cj (vs:=[.bool t7.f,.slice t7.A1 t7.m1 t7.c1,.slice t7.A2 t7.m2 t7.c2]) ag rfl rfl rfl rfl (CE.le hG.le) rfl (by decide) (by rw[Int.toNat_natCast];exact sW) (by omega) (by omega) fun _=> ?_);refine aY rfl rfl (hG.call (Ej (N:=N1) ((bH.raw (zj.le hG.base)).mono ue) ((bH.raw (sV.le hG.base)).mono E0) (by omega)).rc) (fun _ _ h=>h.le fun _ _ h=>h.1) ?_;rintro _ H8 uO;have qN:=hG.kX cX uO fun _ _ h=>h.1;obtain⟨⟨_,t8,rfl,eQ⟩,_⟩:=uO;obtain⟨ti,aj,ak⟩:=aU;refine aH (.inl ⟨rfl,rfl⟩) rfl rfl rfl aj ak rfl rfl rfl (ab [3,7,10,11,13,58,59] ?_);refine aA rfl (aa 1 rfl (aF rfl rfl ⟨by omega,by omega⟩ (aa 1 rfl (au ?_))));exact⟨t8,p.mi j+1,ar,qN,by rw[wc,if_pos fL],by unfold jG;rw[if_pos fL];exact eQ⟩
    have fL:¬p.lp.free j=true:=by rw[jF];simpa using hb
    refine az ?_;exact⟨t6,p.mi j,ar,hG,by rw[wc,if_neg fL,Nat.add_zero],by unfold jG;rw[if_neg fL];exact zj.le hG.base⟩
   rintro t a H9 ⟨nQ,uk,fW⟩;subst uk;refine aA rfl (aa 2 rfl (cI Tryz.underlying28 bQ rfl rfl rfl rfl rfl rfl rfl ?_));intro gb aV;have nx:=nQ.ins cX (whole (dS [.agg #[.bool t.f,.slice t.A1 t.m1 t.c1,.slice t.A2 t.m2 t.c2]]) 38) aV;refine dW Tryz.underlying28 bQ rfl rfl nx.own (ea _ _ _ _ _ _) rfl (zK _ _ _ _ _ _ _) (by rw[bB];omega) (by rw[bB];omega) ?_;intro W9 je SL;have nQ:=nx.append cX (k:=[jG p (iH M B (W-1) i) j]) (by simp) SL (iE (cX _ _ _ _ (pK _ (Heap.bG _ aV)) (show bV _ [_,_,_] _ from fW)) rfl);refine aa 1 rfl (au (ah [3,7,10,11,58,59] rfl ?_));refine aA rfl (aF rfl rfl ⟨by omega,by omega⟩ (aa 1 rfl (au ?_)));exact⟨j+1,_,_,by omega,ar,by rw[xE];exact nQ,by omega⟩
  have gN:p.free.length≤j:=by simpa using hb
  obtain rfl:j=p.free.length:=by omega
  refine aX (ah [10] rfl ?_);refine ae (aa 2 rfl (ab [6] ?_));refine aB ⟨.inr rfl,_,.tmp rfl (.nil),?_⟩;exact⟨SK.trans hG.le,hG.sl cX⟩
end Go.aq
namespace Go.aq
open Go.Proofs Num Lp
section
variable {p:Prg} {c:List Rat} {M:Nat→Nat→Rat} {B:Nat→Nat} {T:av} {L:Nat}
theorem ak3{i:Nat}(hi:i<p.lp.m):pn p (p.unit i)=if p.u≤p.unit i then 1 else 0:=by
 show av.jq _ _ _=_
 unfold av.jq
 by_cases k:p.u≤p.unit i
 ·rw[if_pos k,if_pos ⟨k,nO p hi⟩]
 ·rw[if_neg k,if_neg (fun k'=>k k'.1)]
theorem abk(bO:p.Ok)(hf:Fits p c L){i j:Nat}(hi:i<p.lp.m)(hj:j≤p.w):aN (dN p i j)≤L:=by
 rw[Sr bO.valid hi hj];exact hf.tab i hi _
theorem ak4(bO:p.Ok)(hf:Fits p c L){i j:Nat}(hi:i≤p.lp.m):aN (rf p (dN p) j i)≤2*L:=by
 have h1:=hf.one
 unfold rf
 by_cases hc:j<p.u∨j=p.w
 ·have hj:j≤p.w:=by have:=ft p;omega
  rw[if_pos hc]
  have e: -a7 i (fun q=>if p.u≤p.unit q then dN p q j else 0)=gK (pW p.eh (aq.pn p)) (aq.pn p) i (p.pi j):=by
   have hs:a7 i (fun q=>aq.pn p ((pW p.eh (aq.pn p)).B q)*(pW p.eh (aq.pn p)).A q (p.pi j))=a7 i (fun q=>if p.u≤p.unit q then dN p q j else 0):=eM fun q hq=>by
    show aq.pn p (p.unit q)*p.eh.A q (p.pi j)=_
    rw[ak3 (by omega),Sr bO.valid (by omega) hj]
    split <;> grind
   unfold gK
   rw[hs]
   rcases hc with h1 | h2
   ·have h2:=ft p
    have h3:=zX h1
    have e:aq.pn p (p.pi j)=0:=av.Pp h3
    rw[if_neg (by show ¬p.pi j=p.w;omega),e];grind
   ·rw[h2,if_pos (show p.pi p.w=(pW p.eh (aq.pn p)).n from CB)];grind
  rw[e]
  exact hf.QG i hi _ (MO hj)
 ·rw[if_neg hc];exact Nat.le_trans MV (by omega)
theorem l4.sz(hf:Fits p c L)(h:l4 p T):∀j,j<p.w+1→aN (T.c j)≤L∧∀i,i<p.lp.m→aN (T.A i j)≤L:=fun j hj=>by
 obtain⟨S,hI,hT⟩:=h
 have hS:=hf.B7 S hI
 have hn:=hT.ew
 have hp:=MO (p:=p) (x:=j) (by omega)
 exact⟨by rw[hT.ec j (by omega)];exact hS.c _ (by omega),fun i hi=>by
  have:i<S.m:=by rw[hI.rows.m];exact hi
  rw[hT.eA i this j (by omega)];exact hS.A i this _ (by omega)⟩
theorem nV.sz(hf:Fits p c L)(h:nV p c T):∀j,j<p.w+1→aN (T.c j)≤L∧∀i,i<p.lp.m→aN (T.A i j)≤L:=fun j hj=>by
 obtain⟨S,hI,hT⟩:=h
 have hS:=hf.qj S hI.1
 have hn:=hT.ew
 have hp:=MO (p:=p) (x:=j) (by omega)
 exact⟨by rw[hT.ec j (by omega)];exact hS.c _ (by omega),fun i hi=>by
  have:i<S.m:=by rw[hI.1.rows.m];exact hi
  rw[hT.eA i this j (by omega)];exact hS.A i this _ (by omega)⟩
theorem iT.sz{k:Nat}(hf:Fits p c L)(h:iT p k T):∀j,j<p.w+1→∀i,i<p.lp.m→aN (T.A i j)≤L:=fun j hj=>by
 obtain⟨S,hI,hT⟩:=h
 exact(l4.sz hf ⟨S,hI.1,hT⟩ j hj).2
theorem ak5(hf:Fits p c L)(h:iT p p.lp.m T)(hr:gW M B T p.lp.m (p.w+1)){i j:Nat}(hi:i≤p.lp.m)(hj:j<p.w+1):aN (lC M B (fa p (fn c) 1 p.lp.n) i j)≤2*L:=by
 obtain⟨S,hI,hT⟩:=h
 have hm:S.m=p.lp.m:=hI.1.rows.m
 have hW:=hT.wf hI.1.wf
 have hn:=hT.en.trans hT.ew
 have hj:j≤p.w:=by omega
 have e:lC M B (fa p (fn c) 1 p.lp.n) i j=gK S (kf p c) i (p.pi j):=by
  have hu:∀i k,i<p.lp.m→k<p.lp.m→M k (B i)=if k=i then 1 else 0:=fun i k hi hk=>by
   have h1:=hW.lt i (by rw[hr.em];exact hi)
   rw[hr.eB i hi,hr.eA k hk _ (by omega)]
   exact hW.unit i k (by rw[hr.em];exact hi) (by rw[hr.em];exact hk)
  rw[aaB hu _ hi]
  unfold gK
  have e1:fa p (fn c) 1 p.lp.n j=if p.pi j=S.n then 0 else kf p c (p.pi j):=by
   rw[IS]
   by_cases e:p.pi j=S.n
   ·rw[if_pos e]
    have e':p.pi j=p.w:=e.trans hT.ew
    have h1:=LN (p:=p) (c:=c)
    rw[e'];exact h1
   ·rw[if_neg e]
  rw[e1]
  congr 1
  refine eM fun i' eX=> ?_
  have h1:=hT.eB i' (by omega)
  rw[hr.eB i' (by omega),IS,hr.eA i' (by omega) j (by omega),hT.eA i' (by omega) j hj,h1.1]
 rw[e]
 have:=MO hj
 exact hf.QH S hI.1 i (by omega) _ (by rw[hT.ew];exact this)
end
theorem ak6{W k:Nat}{K:Heap}{xs vs:List Value}{f:Nat→Rat}{q:Rat}(h:lD W f (k+1) K xs)(hk:k<W)(hv:bV K vs q):lD W (bZ f k q) (k+1) K (aJ xs (k*3) vs):=by
 have h1:(fill (aK f W) (k+1)).set k (some q)=fill (aK (bZ f k q) W) (k+1):=by
  have hl:k<(fill (aK f W) (k+1)).length:=by rw[mX (by rw[bB];omega),bB];exact hk
  apply List.ext_getElem?
  intro i
  rw[List.getElem?_set]
  by_cases e:k=i
  ·subst e
   rw[if_pos rfl,if_pos hl,yi (dM hk) (Nat.lt_succ_self k),jt]
  ·rw[if_neg e]
   by_cases hi:i<k+1
   ·rw[yi (dM (show i<W by omega)) hi,yi (dM (show i<W by omega)) hi,eJ (fun h=>e h.symm)]
   ·by_cases hiW:i<W
    ·have hn:∀g:Nat→Rat,(fill (aK g W) (k+1))[i]? = some none:=fun g=>by
      unfold fill
      rw[List.getElem?_append_right (by rw[List.length_map,List.length_take,bB];omega),List.getElem?_replicate,if_pos (by rw[List.length_map,List.length_take,bB];omega)]
     rw[hn,hn]
    ·rw[List.getElem?_eq_none (by rw[mX (by rw[bB];omega),bB];omega),List.getElem?_eq_none (by rw[mX (by rw[bB];omega),bB];omega)]
 show bA _ _ _ _
 rw[←h1]
 exact h.set (by rw[mX (by rw[bB];omega),bB];exact hk) (show ic bV _ vs (some q)from hv) (iG.len _ _ _ hv)
theorem ak7{W k:Nat}{K:Heap}{xs:List Value}{f g:Nat→Rat}(h:lD W f k K xs)(he:∀j,j<k→g j=f j)(hk:k≤W):lD W g k K xs:=by
 have e:fill (aK g W) k=fill (aK f W) k:=by
  unfold fill
  rw[bB,bB]
  congr 2
  apply List.ext_getElem?
  intro i
  rw[List.getElem?_take,List.getElem?_take]
  split
  ·rw[dM (by omega),dM (by omega),he i (by assumption)]
  ·rfl
 show bA _ _ _ _
 rw[e];exact h
theorem ak8{W k n:Nat}{K:Heap}{xs:List Value}{f:Nat→Rat}(h:lD W f n K xs)(hk:k<n)(hn:n≤W):∃t:RC,bH K t.v (f k)∧∀(j:Nat)(v:Value),[.bool t.f,.slice t.A1 t.m1 t.c1,.slice t.A2 t.m2 t.c2][j]? = some v→xs[k*3+j]? = some v:=by
 obtain⟨vs,_,h2,h3⟩:=h.get (yi (dM (show k<W by omega)) hk)
 obtain⟨t,e,h4⟩:=bV.rc (show bV K vs (f k)from h2)
 subst e
 exact⟨t,h4,h3⟩
theorem cA.tab{H:Heap}{G:GG}{W m:Nat}{M:Nat→Nat→Rat}{B:Nat→Nat}(h:cA iG H G m W m M B):∃Ab cb,G.bv = .slice Ab m cb∧IV H G.Ar Ab G.rg m W M B∧∀{H' t R' M' B'},cA iG H' (G.on t) R' W m M' B'→∀i,i<m→Rd H' Ab (eN B' m):=by
 obtain⟨Ab,cb,du,fG⟩:=h.s9
 refine⟨Ab,cb,du,⟨h.iu,h.hd,fun i q hq=> ?_,?_⟩,fG⟩
 ·obtain⟨xs,sz,h1,h2⟩:=h.rb hq
  exact⟨xs,dQ h1,h2.mono fun vs a=>cX _ _ vs a (bD _ _)⟩
 ·by_cases hm:0<m
  ·exact fG (t:=G.top) h 0 hm
  ·obtain rfl:m=0:=by omega
   intro i v hv
   simp[eN]at hv
theorem aQ.abl{N M:Nat}{H:Heap}{v:Value}{l:List Rat}(h:aQ (dI N) 3 H v l)(hl:N≤M):aQ (dI M) 3 H v l:=h.mono fun _ _ a=>dI.mono a hl
def ak9(p:Prg)(c:List Rat)(L:Nat)(H:Heap)(v:Value)(H':Heap):Prop:=Heap.le H H'∧∃(st:Int)(t:RC)(xv:Value)(q:Rat),v = .tuple #[.int .i64 st,t.v,xv]∧qb p c st q∧bH H' t.v q∧aN q≤L∧(st=1→∃x,aQ bV 3 H' xv x∧x.length=p.free.length∧(∀q,q∈x→aN q≤2*L+17)∧q=cJ p.free.length (fn c) (fn x))
theorem Jg{p:Prg}{c:List Rat}{L:Nat}{st:Int}{q:Rat}(hf:Fits p c L)(h:qb p c st q):aN q≤L:=by
 have h1:=hf.one
 rcases h with ⟨_,_,T,hI,rfl⟩ | ⟨_,_,rfl⟩ | ⟨_,_,rfl⟩
 ·rw[wZ]
  have:=hI.1.rows.n
  exact(hf.qj T hI.1).c _ (by omega)
 ·exact Nat.le_trans MV h1
 ·exact Nat.le_trans MV h1
end Go.aq
namespace Go.aq
open Go.Proofs Num Lp
theorem ala{H:Heap}{p:Prg}{c:List Rat}{pv cv:Value}{N L:Nat}(bO:p.Ok)(fh:c.length=p.free.length)(hp:m7 N H pv p)(hc:aQ (dI N) 3 H cv c)(hN:N≤400000000)(hf:Fits p c L)(hL:L≤99999998):
 Fn Tryz.prog 25 #[pv,cv] H (ak9 p c L H):=by
 obtain⟨fv,kE,rfl,ng,nh⟩:=id hp
 have pH:=HC p
 have SR:=bO.pM
 have MZ:=bO.rows
 have akv:p.lp.m≤800:=MZ
 have aaZ:p.lp.n≤400:=SR
 have mA:=ft p
 have akw:=mC p
 have hL1:=hf.one;refine aZ (args:=[_,_]) Tryz.func25 rfl rfl Tryz.ntmps25 rfl rfl fun w0=> ?_;refine ah [0,1] rfl ?_;refine ae (bY rfl rfl (aa 1 rfl (bh bQ rfl (aa 1 rfl (ab [1,2,5] ?_)))));refine ae (aa 1 rfl (aC rfl rfl (akU bO hp hN) ?_));rintro _ H1 ⟨G,rfl,Tp,mT,bx⟩;obtain⟨Ab,cb,du,alb,fG⟩:=mT.tab;rw[du];obtain⟨W,hW⟩:∃W,W=p.w+1:=⟨_,rfl⟩;refine aa 3 rfl (bh J8 rfl ?_);obtain⟨ti,aj,ak⟩:=Oh;refine aH (.inl ⟨rfl,rfl⟩) rfl rfl rfl aj ak rfl rfl rfl (aa 1 rfl (ab [1,2,5,7,8] ?_));refine ae (aC rfl rfl (Fn.kq mT.ne (oU (n:=0) (by decide) (by decide))) ?_);rintro v2 H2 Nl;obtain⟨t9,rfl,fW⟩:=Nl.val;rw[show ((0:Int):Rat)=0 from rfl]at fW;have ep:=mT.kept Nl.kept;have cD:=bx.trans Nl.kept.le;have Tx:=cD.trans (bD _ _);refine bh bQ rfl ?_;obtain⟨ti,aj,ak⟩:=aU;refine aH (.inl ⟨rfl,rfl⟩) rfl rfl rfl aj ak rfl rfl rfl (ab [1,2,5,7,8,9] ?_);refine ao (ae (aa 4 rfl (aC rfl rfl (aku bO fh (hp.le Tx) (hc.le (r8 N) Tx) (by omega) (alb.le Nl.le) (fun i hi j hj=>abk bO hf hi hj) (by omega)) ?_)));rintro _ H3b ⟨st,xv,b,rfl,Tz,hQ⟩
 have Nn:=Tx.trans Tz;refine aa 7 rfl (ab [1,2,5,7,8,9,10,11,12] ?_);refine ae (aa 1 rfl (ab [1,2,5,7,8,9,10,11,36] ?_));refine aD rfl (fun hb=> ?_) (fun hb=> ?_)
 ·
  have hQ:=hQ (by simpa using hb);refine ao (ae (aa 2 rfl (ab [1,5,9,10,11,38] ?_)));refine aD rfl (fun hb=> ?_) (fun hb=> ?_)
  ·
   have dG:¬st=1:=by simpa using hb
   have hS:qb p c st 0:=by
    rcases hQ with ⟨h9,_⟩ | ⟨_,h9⟩
    ·exact absurd h9 dG
    ·exact h9
   refine bM .bJ [0,1,2,3,4,5] follows (by kernel_rfl) ?_;refine vr 4 ?_;obtain⟨ti,aj,ak⟩:=aU;refine aH (.inl ⟨rfl,rfl⟩) rfl rfl rfl aj ak rfl rfl rfl (aa 1 rfl (ab [4,5,6] ?_));obtain⟨Np,yr,yt⟩:=aU;refine aB ⟨.inr rfl,_,.tmp rfl (.agg rfl Tryz.underlying38 yr yt (.tmp rfl (.nil))),?_⟩;exact⟨Nn,st,t9,xv,0,rfl,hS,(fW.le (bD _ _)).le Tz,Jg hf hS,fun h9=>absurd h9 dG⟩
  ·
   have dG:st=1:=by simpa using hb
   obtain⟨x,hx,cZ,hS,hxz⟩:∃x,aQ bV 3 H3b xv x∧x.length=p.free.length∧qb p c 1 (cJ p.free.length (fn c) (fn x))∧∀q,q∈x→aN q≤17:=by
    rcases hQ with ⟨_,h9⟩ | ⟨h9,_⟩
    ·exact h9
    ·exact absurd dG h9
   subst dG;refine az (ah [1,5,10,11] rfl ?_);refine ae (aa 3 rfl (aC rfl rfl (aaP (N:=400000000) ((hc.le (r8 N) Nn).abl hN) (hx.zL fun q hq=>Nat.le_trans (hxz q hq) (by decide)) (by omega) (by omega) (Nat.le_refl _)) ?_));rintro _ H4 ⟨cM,t4,rfl,ct⟩;rw[fh]at ct;refine vr 2 ?_;obtain⟨ti,aj,ak⟩:=aU;refine aH (.inl ⟨rfl,rfl⟩) rfl rfl rfl aj ak rfl rfl rfl (aa 1 rfl (ab [4,5,6] ?_));obtain⟨Np,yr,yt⟩:=aU;refine aB ⟨.inr rfl,_,.tmp rfl (.agg rfl Tryz.underlying38 yr yt (.tmp rfl (.nil))),?_⟩;exact⟨Nn.trans cM,1,t4,xv,_,rfl,hS,ct,Jg hf hS,fun _=>⟨x,hx.le cX cM,cZ,fun q hq=>Nat.le_trans (hxz q hq) (by omega),rfl⟩⟩
 ·
  obtain⟨H3,gH,dz⟩:=aj5 G.gs Tz ep.ne;refine RX gH ?_;clear hQ Nn;have lI:=ep.kept dz;have eF:=cD.trans dz.le;have fW:=fW.le dz.le;rw[←hW]at lI;refine az (ah [1,2,5,7,8,9] rfl ?_);refine ae (aa 1 rfl (aF rfl rfl ⟨by omega,by omega⟩ (aa 1 rfl (ab [1,2,5,7,8,9,13] ?_))));refine kM (fun(a:Nat)=>put (put (put (put (put (put (put (emp) 1 (.val (cv))) 2 (.box [fv,kE])) 5 (.box [.bool false,.slice none 0 0,.slice none 0 0])) 7 (.box [.slice G.Ar p.lp.m G.cr,.slice Ab p.lp.m cb])) 8 (.val (.int .i64 (p.u:Int)))) 9 (.box [.bool t9.f,.slice t9.A1 t9.m1 t9.c1,.slice t9.A2 t9.m2 t9.c2])) 13 (.val (.int .i64 (a:Int)))) (fun(a:Nat) H'=>H'=H3∧W=a) ?_ ?_
  ·
   refine ae (aa 4 rfl (ab [1,2,5,7,8,9,13,52] ?_));refine aD rfl (fun hb=> ?_) (fun hb=> ?_)
   ·
    have wJ:0<p.lp.m:=by simp at hb;omega
    obtain⟨p0,AK⟩:=lI.get wJ;refine aA rfl (aa 2 rfl (aS ag rfl rfl rfl rfl rfl (lI.hd) (by show (iR G.rg _)[0]? = _;exact kj (rg:=G.rg) AK) (by omega) (by omega) fun _=> ?_));refine aa 2 rfl (au ?_);exact⟨W,ar,rfl,rfl⟩
   have wJ:p.lp.m=0:=by simp at hb;omega
   have e9:p.w=p.u:=by show a8 _ _ _ p.lp.m=_;rw[wJ];rfl
   refine az ?_;exact⟨W,ar,rfl,rfl⟩
  rintro a H4 ⟨e4,rfl⟩;rw[e4];clear e4 H4;refine ae (aa 1 rfl (gP Tryz.underlying28 bQ rfl rfl rfl (by omega) (by omega) (by omega) (by omega) ?_));intro z jd;rw[Int.toNat_natCast];have CO:=lI.gu.start (C:=lD W (fun _=>0) 0) (xs:=dd [.bool false,.slice none 0 0,.slice none 0 0] (W*3)) jd Nf;refine aa 1 rfl (ab [1,2,5,7,8,9,13,14] ?_);refine ao (ae (aa 3 rfl (ab [1,2,5,7,8,9,13,14,61,62] ?_)));refine aE (gn (fun(k:Nat)(f:Nat→Rat)=>W-k) (fun(k:Nat)(f:Nat→Rat)=>put (put (put (put (put (put (put (put (put (put (emp) 1 (.val (cv))) 2 (.box [fv,kE])) 5 (.box [.bool false,.slice none 0 0,.slice none 0 0])) 7 (.box [.slice G.Ar p.lp.m G.cr,.slice Ab p.lp.m cb])) 8 (.val (.int .i64 (p.u:Int)))) 9 (.box [.bool t9.f,.slice t9.A1 t9.m1 t9.c1,.slice t9.A2 t9.m2 t9.c2])) 13 (.val (.int .i64 (W:Int)))) 14 (.val (.slice (some ⟨z,0,none⟩) W W))) 61 (.val (.int .i64 (W:Int)))) 62 (.val (.int .i64 (k:Int)))) (fun(k:Nat)(f:Nat→Rat) H'=>SZ (lD W f k) (rem H3 G.gs) H' G p.lp.m W p.lp.m (dN p) p.unit (.slice none 0 0) [] z∧(∀j,j<k→f j=ra p (dN p) j)∧k≤W) 0 (fun _=>0) (⟨CO,fun j hj=>absurd hj (Nat.not_lt_zero _),Nat.zero_le _⟩) ar ?_);rintro k f H5 ⟨hS,M8,hk⟩;obtain⟨xs,hx,hC⟩:=hS.row;have cZ:=Jd hC hk;refine ae (vr 1 ?_)
  refine ab [1,2,5,7,8,9,13,14,61,62,63] ?_;refine ao (aD rfl (fun hb=> ?_) (fun hb=> ?_))
  ·
   have fi:k<W:=by simpa using hb
   have vn:=hS.set (.refl _ _) (Nc (f:=bZ f k 0) (ak7 hC (fun j hj=>pa (by omega)) hk) fi (by rw[qX];exact(show bV _ [_,_,_] _ from fW.le hS.le)));refine az (ah [1,2,5,7,8,9,13,14,61,62] rfl ?_);refine ao (aE (ae (aa 2 rfl (ab [1,2,5,7,8,9,13,14,15,61,62] ?_))));refine ae (vr 3 ?_);obtain⟨ti,aj,ak⟩:=aU;refine cV (.inl rfl) ag rfl rfl rfl (by omega) (by omega) (hx) rfl (by show 0+W*3≤xs.length;omega) aj ak (fun _=>rfl) rfl rfl rfl fun _=> ?_;refine ab [1,2,5,7,8,9,13,14,15,61,62] ?_;rw[pe,Int.toNat_natCast];refine ae (aa 4 rfl (ab [1,2,5,7,8,9,13,14,15,61,62,71,72] ?_));refine aE (gn (fun(i:Nat)(f2:Nat→Rat)=>p.lp.m-i) (fun(i:Nat)(f2:Nat→Rat)=>put (put (put (put (put (put (put (put (put (put (put (put (put (emp) 1 (.val (cv))) 2 (.box [fv,kE])) 5 (.box [.bool false,.slice none 0 0,.slice none 0 0])) 7 (.box [.slice G.Ar p.lp.m G.cr,.slice Ab p.lp.m cb])) 8 (.val (.int .i64 (p.u:Int)))) 9 (.box [.bool t9.f,.slice t9.A1 t9.m1 t9.c1,.slice t9.A2 t9.m2 t9.c2])) 13 (.val (.int .i64 (W:Int)))) 14 (.val (.slice (some ⟨z,0,none⟩) W W))) 15 (.val (.int .i64 (k:Int)))) 61 (.val (.int .i64 (W:Int)))) 62 (.val (.int .i64 (k:Int)))) 71 (.val (.int .i64 (p.lp.m:Int)))) 72 (.val (.int .i64 (i:Int)))) (fun(i:Nat)(f2:Nat→Rat) H'=>SZ (lD W f2 (k+1)) (rem H3 G.gs) H' G p.lp.m W p.lp.m (dN p) p.unit (.slice none 0 0) [] z∧(∀j,j<k→f2 j=ra p (dN p) j)∧f2 k=rf p (dN p) k i∧i≤p.lp.m) 0 (bZ f k 0) (⟨vn,fun j hj=>by rw[pa (by omega)];exact M8 j hj,by rw[qX,aaT],Nat.zero_le _⟩) ar ?_)
   rintro i f2 H6 ⟨hV,CQ,Jh,hi⟩;obtain⟨ws,s7,nC⟩:=hV.row;have pH:=Jd nC (show k+1≤W by omega);refine ae (aa 1 rfl (ab [1,2,5,7,8,9,13,14,15,61,62,71,72,73] ?_));refine ao (aD rfl (fun hb=> ?_) (fun hb=> ?_))
   ·
    have aP:i<p.lp.m:=by simpa using hb
    have yk:=fG (t:=z::(aw (.slice none 0 0)++G.top)) (by rw[←hW];exact hV.q) i aP;refine az (ah [1,2,5,7,8,9,13,14,15,61,62,71,72] rfl ?_);refine ao (aE (ae (aa 2 rfl (ab [1,2,5,7,8,9,13,14,15,16,61,62,71,72] ?_))));refine kM (fun(b0:Bool)=>put (put (put (put (put (put (put (put (put (put (put (put (put (put (put (emp) 1 (.val (cv))) 2 (.box [fv,kE])) 5 (.box [.bool false,.slice none 0 0,.slice none 0 0])) 7 (.box [.slice G.Ar p.lp.m G.cr,.slice Ab p.lp.m cb])) 8 (.val (.int .i64 (p.u:Int)))) 9 (.box [.bool t9.f,.slice t9.A1 t9.m1 t9.c1,.slice t9.A2 t9.m2 t9.c2])) 13 (.val (.int .i64 (W:Int)))) 14 (.val (.slice (some ⟨z,0,none⟩) W W))) 15 (.val (.int .i64 (k:Int)))) 16 (.val (.int .i64 (i:Int)))) 61 (.val (.int .i64 (W:Int)))) 62 (.val (.int .i64 (k:Int)))) 71 (.val (.int .i64 (p.lp.m:Int)))) 72 (.val (.int .i64 (i:Int)))) 92 (.val (.bool b0))) (fun(b0:Bool) H'=>H'=H6∧(b0=true↔p.u≤p.unit i∧(k<p.u∨k=p.w))) ?_ ?_
    ·
     by_cases h1:p.u≤p.unit i
     ·
      skip
      by_cases h2:k<p.u
      ·
       skip
       refine aA rfl (aa 3 rfl (aS ag rfl rfl rfl rfl rfl (yk) (by rw[Int.toNat_natCast];exact gI aP) (by omega) (by omega) fun _=> ?_));refine aa 1 rfl (aG true rfl rfl (me (by omega)) (aa 3 rfl (aG true rfl rfl (ja (by omega)) (aa 7 rfl (au ?_)))));exact⟨_,ar,rfl,by simp[h1,h2]⟩
      skip
      by_cases h3:k=p.w
      ·
       skip
       refine aA rfl (aa 3 rfl (aS ag rfl rfl rfl rfl rfl (yk) (by rw[Int.toNat_natCast];exact gI aP) (by omega) (by omega) fun _=> ?_));refine aa 1 rfl (aG true rfl rfl (me (by omega)) (aa 3 rfl (aG false rfl rfl (ia (by omega)) (aa 3 rfl (cQ rfl rfl ⟨by omega,by omega⟩ (aG true rfl rfl (iL (by omega)) (aa 2 rfl (au ?_))))))));exact⟨_,ar,rfl,by simp[h1,h3]⟩
      skip
      refine aA rfl (aa 3 rfl (aS ag rfl rfl rfl rfl rfl (yk) (by rw[Int.toNat_natCast];exact gI aP) (by omega) (by omega) fun _=> ?_));refine aa 1 rfl (aG true rfl rfl (me (by omega)) (aa 3 rfl (aG false rfl rfl (ia (by omega)) (aa 3 rfl (cQ rfl rfl ⟨by omega,by omega⟩ (aG false rfl rfl (ks (by omega)) (aa 2 rfl (au ?_))))))));exact⟨_,ar,rfl,by simp[h1,h2,h3]⟩
     skip
     refine aA rfl (aa 3 rfl (aS ag rfl rfl rfl rfl rfl (yk) (by rw[Int.toNat_natCast];exact gI aP) (by omega) (by omega) fun _=> ?_));refine aa 1 rfl (aG false rfl rfl (ql (by omega)) (aa 11 rfl (au ?_)));exact⟨_,ar,rfl,by simp[h1]⟩
    rintro b0 H9 ⟨e9,gD⟩;rw[e9];clear e9 H9;refine aD rfl (fun hb=> ?_) (fun hb=> ?_)
    ·
     have S0:=gD.1 (by simpa using hb);obtain⟨pi,cU⟩:=lI.get aP;obtain⟨xi8,si8,S1,S2⟩:=hV.q.rb (G:=G.on _) cU;obtain⟨t5,xx,lS⟩:=ak8 nC (Nat.lt_succ_self k) (show k+1≤W by omega);obtain⟨t6,zj,qC⟩:=l5 S2 fi
     have uc:aN (f2 k)≤2*L:=by rw[Jh];exact ak4 bO hf (by omega)
     have ue:aN (dN p i k)≤L:=abk bO hf aP (by omega);refine eo .gB [0,1,2,3,4,5,6,7,8,9,10,11,12,13,14,15,16] follows (gL [0,0,0,0,12,28,0,64,0,448,960,0,4032,8128,16380,32767,65535] (by kernel_rfl)) ?_;refine aa 4 rfl (cj (vs:=[.bool t5.f,.slice t5.A1 t5.m1 t5.c1,.slice t5.A2 t5.m2 t5.c2]) ag rfl rfl rfl rfl (dQ s7) rfl (by decide) (by rw[Int.toNat_natCast];exact lS) (by omega) (by omega) fun _=> ?_);refine aa 3 rfl (aS ag rfl rfl rfl rfl rfl (hV.q.hd) (by rw[Int.toNat_natCast];exact kj (rg:=G.rg) (W:=_) cU) (by omega) (by omega) fun _=> ?_);refine aa 1 rfl (cj (vs:=[.bool t6.f,.slice t6.A1 t6.m1 t6.c1,.slice t6.A2 t6.m2 t6.c2]) ag rfl rfl rfl rfl (dQ S1) rfl (by decide) (by rw[Int.toNat_natCast];exact qC) (by omega) (by omega) fun _=> ?_);refine aY rfl rfl (Fn.kq hV.q.ne (Ej (N:=2*L) ((bH.raw xx).mono uc) ((bH.raw zj).mono (by omega)) (by omega))) (fun _ _ h=>by first | exact h.le | exact h.1) ?_;rintro v8 H8 gh;obtain⟨t8,rfl,eQ⟩:=gh.val;have rh:=(gh.kept.same z SZ.mJ).trans s7;obtain⟨ti,aj,ak⟩:=aU;refine cV (.inr rfl) ag rfl rfl rfl (by omega) (by omega) (rh) rfl (by show 0+W*3≤ws.length;omega) aj ak (fun _=>rfl) rfl rfl rfl fun _=> ?_;refine au ?_;rw[pe,Int.toNat_natCast];have S3:=hV.set gh.kept (ak6 (Tn _ _ _ gh.kept.le nC) fi (show bV _ [_,_,_] _ from eQ))
     refine ah [1,2,5,7,8,9,13,14,15,61,62,71,72] rfl ?_;refine aA rfl (aF rfl rfl ⟨by omega,by omega⟩ (aa 1 rfl (au ?_)));exact⟨i+1,bZ f2 k (f2 k-dN p i k),by omega,ar,S3,fun j hj=>by rw[pa (by omega)];exact CQ j hj,by rw[qX,Jh,aaU S0],by omega⟩
    have I6:¬(p.u≤p.unit i∧(k<p.u∨k=p.w)):=fun h9=>by have:=gD.2 h9;simp[this]at hb
    refine az (ah [1,2,5,7,8,9,13,14,15,61,62,71,72] rfl ?_);refine aA rfl (aF rfl rfl ⟨by omega,by omega⟩ (aa 1 rfl (au ?_)));exact⟨i+1,f2,by omega,ar,hV,CQ,by rw[Jh,aaV I6],by omega⟩
   have aP:p.lp.m≤i:=by simpa using hb
   obtain rfl:i=p.lp.m:=by omega
   refine aX (ah [1,2,5,7,8,9,13,14,61,62] rfl ?_);refine aA rfl (aF rfl rfl ⟨by omega,by omega⟩ (aa 1 rfl (au ?_)));rw[aaW]at Jh
   exact⟨k+1,f2,by omega,ar,hV,fun j hj=>by
    by_cases ej:j=k
    ·subst ej;exact Jh
    ·exact CQ j (by omega),by omega⟩
  have fi:W≤k:=by simpa using hb
  have ek:k=W:=by omega
  rw[ek]at hS M8;have CP:=hS.to (C':=la W f) fun _ h=>Nd h;refine aX (ah [1,2,5,7,8,9,13,14] rfl ?_);refine ae (aa 3 rfl (cI Tryz.underlying84 AX rfl rfl rfl rfl rfl rfl rfl ?_));intro gb aV;have hS7:=CP.fresh Aj (e:=whole [.slice (some ⟨z,0,none⟩) W W] 28) aV;refine dW Tryz.underlying84 AX rfl rfl hS7.q.rows (ea _ _ _ _ _ _) rfl (B0 _ _ _) (by omega) (by omega) ?_;intro v8 H8 nP;obtain⟨A9,c9,rfl⟩:=nP.own.form;have qZ:=hS7.more (MY nP);obtain⟨tW,eT⟩:=qZ.drop;obtain⟨M9,ym⟩:∃M9,M9=(fun i=>if i=p.lp.m then f else dN p i):=⟨_,rfl⟩;rw[←ym]at tW
  have hT9:l4 p (yg M9 p.unit p.lp.m p.w):=by
   refine aaA bO (fun i hi j hj=>by rw[ym];show (if i=p.lp.m then f else dN p i) j=_;rw[if_neg (by omega)]) (fun j hj=> ?_)
   have e7:ra p M9 j=ra p (dN p) j:=by
    unfold ra
    split
    ·
     refine congrArg (fun x:Rat=> -x) (eM fun i hi=> ?_);rw[ym]
     show (if _ then(if i=p.lp.m then f else dN p i) j else 0)=_
     rw[if_neg (show ¬i=p.lp.m by omega)]
    ·rfl
   rw[e7,←M8 j (by omega),ym]
   show (if p.lp.m=p.lp.m then f else _) j=_
   rw[if_pos rfl]
  obtain⟨G9,rfl,rfl,IY,tW,eT⟩:∃G9:GG,G9.Ar=A9∧G9.cr=c9∧G9.bv = .slice Ab p.lp.m cb∧cA iG H8 G9 (p.lp.m+1) (p.w+1) p.lp.m M9 p.unit∧Heap.le (rem H3 G.gs) (rem H8 G9.gs):=⟨G.more G.top z W A9 c9 p.lp.m,rfl,rfl,du,by rw[←hW];exact tW,eT⟩;have S4:∀i,i<p.lp.m→p.unit i<p.w+1:=fun i hi=>Nat.lt_succ_of_lt (nO p hi);refine vr 1 ?_;obtain⟨ti,aj,ak⟩:=J7;refine aH (.inr rfl) rfl rfl rfl aj ak rfl rfl rfl (ab [1,2,5,7,8,9,13] ?_);refine ae (vr 2 ?_);have hI:=aaO (u:=p.u) tW (by omega) (by omega) (by omega) (fun T r s=>l4.step) hT9 MT hT9.acc S4 (fun T hT=>hT.sz hf) (by omega);rw[IY]at hI;refine aC rfl rfl hI ?_;rintro _ lW ⟨E3,M0,S5,T,rfl,qI,qO,hT,iS,S6,rW,S7⟩;have Ag:=eT.trans qO
  have I7:∀j,j<p.u→0≤T.c j:=fun j hj=>by
   cases S5 with
   | true=>rw[←iS.ec j (by omega)];exact rW rfl j hj
   | false=>
    obtain⟨s,k1,k2,k3⟩:=S7 rfl;exact(hT.aay k1 (by rw[←iS.ec s (by omega)];exact k2) fun i hi=>by rw[iS.em]at hi;rw[←iS.eA i hi s (by omega)];exact k3 i hi).elim
  obtain⟨pm,s3⟩:=qI.get (Nat.lt_succ_self p.lp.m);obtain⟨xm,sm,Cx,Cy⟩:=qI.rb s3;obtain⟨t10,Iq,Md⟩:=l5 Cy (show p.w<p.w+1 by omega)
  have anV:aN (E3 p.lp.m p.w)≤L:=by rw[iS.ec _ (Nat.lt_succ_self _)];exact(hT.sz hf _ (Nat.lt_succ_self _)).1
  refine ab [1,2,5,7,8,9,13] ?_;refine ao (ae (aa 5 rfl (cQ rfl rfl ⟨by omega,by omega⟩ (aS ag rfl rfl rfl rfl rfl (qI.hd) (by rw[show (((p.lp.m+1:Nat):Int)-1).toNat=p.lp.m by omega];exact kj (rg:=G9.rg) (W:=_) s3) (by omega) (by omega) fun _=> ?_))));refine aa 1 rfl (cQ rfl rfl ⟨by omega,by omega⟩ (cj (vs:=[.bool t10.f,.slice t10.A1 t10.m1 t10.c1,.slice t10.A2 t10.m2 t10.c2]) ag rfl rfl rfl rfl (dQ Cx) rfl (by decide) (by rw[show ((W:Int)-1).toNat=p.w by omega];exact Md) (by omega) (by omega) fun _=> ?_));refine aC rfl rfl (Fn.lR qI.ne (xK (bH.raw Iq) (by omega))) ?_;rintro v11 je ⟨Cf,vS,rfl⟩;have zv:=qI.kept Cf;have Ag:=Ag.trans Cf.le;refine aa 1 rfl (ab [1,2,5,7,8,9,13,133] ?_);refine aD rfl (fun hb=> ?_) (fun hb=> ?_)
  ·
   have Bv:p.lp.pN:=hT.inf bO I7 (by rw[←iS.ec _ (Nat.lt_succ_self _)];exact fun h9=>by rw[h9]at hb;simp[fI]at hb);have hS:qb p c 2 0:= .inr (.inl ⟨rfl,Bv,rfl⟩);have hlE:=Ag.trans (bD _ _);refine bM .bJ [0,1,2,3] follows (by kernel_rfl) ?_;refine vr 2 ?_;obtain⟨ti,aj,ak⟩:=aU;refine aH (.inl ⟨rfl,rfl⟩) rfl rfl rfl aj ak rfl rfl rfl (aa 1 rfl (ab [4,5,6] ?_));obtain⟨Np,yr,yt⟩:=aU;refine aB ⟨.inr rfl,_,.tmp rfl (.agg rfl Tryz.underlying38 yr yt (.tmp rfl (.nil))),?_⟩;exact⟨eF.trans hlE,2,t9,.slice none 0 0,0,rfl,hS,fW.le hlE,Jg hf hS,fun h9=>absurd h9 (by decide)⟩
  have h0:E3 p.lp.m p.w=0:=vD (by simpa using hb);have S8:iT p 0 T:=hT.clean I7 (by rw[←iS.ec _ (Nat.lt_succ_self _)];exact h0);obtain⟨dC,jU,mD,kV,_,_,anW⟩:=zv.less;have tc:=Ag.trans kV;refine az (ah [1,2,5,7,8,9,13] rfl ?_);refine ae (aa 5 rfl (cQ rfl rfl ⟨by omega,by omega⟩ ?_));rw[show ((p.lp.m+1:Nat):Int)-1=((p.lp.m:Nat):Int) by omega];refine rJ ag rfl rfl (.inl ⟨rfl,rfl⟩) (.inr ⟨_,_,rfl,rfl⟩) (by omega) (by omega) ?_;rw[yQ,Nat.sub_zero,Nat.sub_zero];refine vr 1 ?_;obtain⟨ti,aj,ak⟩:=J7;refine aH (.inr rfl) rfl rfl rfl aj ak rfl rfl rfl (ab [1,2,5,7,8,9,13] ?_);refine RX jU ?_;obtain⟨ij,eA,eC,Nq,mD,tc⟩:∃ij:GG,ij.Ar=G9.Ar∧ij.cr=G9.cr∧ij.bv = .slice Ab p.lp.m cb∧cA iG dC ij p.lp.m (p.w+1) p.lp.m E3 M0∧Heap.le (rem H3 G.gs) (rem dC ij.gs):=⟨G9.less p.lp.m,rfl,rfl,IY,mD,tc⟩;rw[←eA,←eC];clear jU Cx Cy eT qO;obtain⟨M6,M7,sA,BN⟩:=mD.s9;rw[Nq]at sA
  cases sA
  refine ao (ae (aa 4 rfl (ab [1,2,5,7,8,9,13,145,146] ?_)));refine aE (fB (fun(i:Nat)(M1:Nat→Nat→Rat)(B1:Nat→Nat)=>p.lp.m-i) (fun(i:Nat)(M1:Nat→Nat→Rat)(B1:Nat→Nat)=>put (put (put (put (put (put (put (put (put (emp) 1 (.val (cv))) 2 (.box [fv,kE])) 5 (.box [.bool false,.slice none 0 0,.slice none 0 0])) 7 (.box [.slice ij.Ar p.lp.m ij.cr,.slice Ab p.lp.m cb])) 8 (.val (.int .i64 (p.u:Int)))) 9 (.box [.bool t9.f,.slice t9.A1 t9.m1 t9.c1,.slice t9.A2 t9.m2 t9.c2])) 13 (.val (.int .i64 (W:Int)))) 145 (.val (.int .i64 (p.lp.m:Int)))) 146 (.val (.int .i64 (i:Int)))) (fun(i:Nat)(M1:Nat→Nat→Rat)(B1:Nat→Nat) H'=>cA iG H' ij p.lp.m (p.w+1) p.lp.m M1 B1∧Heap.le (rem H3 G.gs) (rem H' ij.gs)∧(∀q,q<p.lp.m→B1 q<p.w+1)∧(∃T,iT p i T∧gW M1 B1 T p.lp.m (p.w+1))∧i≤p.lp.m) 0 E3 M0 (⟨mD,tc,S6,⟨T,S8,iS⟩,Nat.zero_le _⟩) ar ?_);rintro i M1 B1 kW ⟨sS,mB,Ai,CJ,hi⟩;refine ae (aa 1 rfl (ab [1,2,5,7,8,9,13,145,146,147] ?_));refine ao (aD rfl (fun hb=> ?_) (fun hb=> ?_))
  ·
   have aP:i<p.lp.m:=by simpa using hb
   obtain⟨pi,cU⟩:=sS.get aP
   have Ta:(∃T,iT p i T∧gW M1 B1 T p.lp.m (p.w+1)∧p.u≤B1 i∧∀j,j<0→M1 i j=0)∨(B1 i<p.u∧∃T,iT p (i+1) T∧gW M1 B1 T p.lp.m (p.w+1)):=by
    obtain⟨T,k1,k2⟩:=CJ
    by_cases hu:B1 i<p.u
    ·exact .inr ⟨hu,T,k1.skip (by rw[k2.em];exact aP) (.inl (by rw[←k2.eB i aP];exact hu)),k2⟩
    ·exact .inl ⟨T,k1,k2,by omega,fun j hj=>absurd hj (Nat.not_lt_zero _)⟩
   refine az (ah [1,2,5,7,8,9,13,145,146] rfl ?_);refine ao (aE (ae (aa 2 rfl (ab [1,2,5,7,8,9,13,17,145,146] ?_))));refine ae (aa 1 rfl (ab [1,2,5,7,8,9,13,17,18,145,146] ?_));refine aE (fB (fun(k:Nat)(M2:Nat→Nat→Rat)(B2:Nat→Nat)=>p.u-k) (fun(k:Nat)(M2:Nat→Nat→Rat)(B2:Nat→Nat)=>put (put (put (put (put (put (put (put (put (put (put (emp) 1 (.val (cv))) 2 (.box [fv,kE])) 5 (.box [.bool false,.slice none 0 0,.slice none 0 0])) 7 (.box [.slice ij.Ar p.lp.m ij.cr,.slice Ab p.lp.m cb])) 8 (.val (.int .i64 (p.u:Int)))) 9 (.box [.bool t9.f,.slice t9.A1 t9.m1 t9.c1,.slice t9.A2 t9.m2 t9.c2])) 13 (.val (.int .i64 (W:Int)))) 17 (.val (.int .i64 (i:Int)))) 18 (.val (.int .i64 (k:Int)))) 145 (.val (.int .i64 (p.lp.m:Int)))) 146 (.val (.int .i64 (i:Int)))) (fun(k:Nat)(M2:Nat→Nat→Rat)(B2:Nat→Nat) H'=>cA iG H' ij p.lp.m (p.w+1) p.lp.m M2 B2∧Heap.le (rem H3 G.gs) (rem H' ij.gs)∧(∀q,q<p.lp.m→B2 q<p.w+1)∧((∃T,iT p i T∧gW M2 B2 T p.lp.m (p.w+1)∧p.u≤B2 i∧∀j,j<k→M2 i j=0)∨(B2 i<p.u∧∃T,iT p (i+1) T∧gW M2 B2 T p.lp.m (p.w+1)))∧k≤p.u) 0 M1 B1 (⟨sS,mB,Ai,Ta,Nat.zero_le _⟩) ar ?_);rintro k M2 B2 p7 ⟨oX,z6,Nr,TA,Lb⟩;have abm:=BN (t:=ij.top) oX i aP;refine ao ?_
   by_cases Cz:k<p.u
   ·
    skip
    by_cases h2u:p.u≤B2 i
    ·
     obtain⟨anX,anY,MU,alc⟩:=oX.rb cU;obtain⟨t14,x8,IJ⟩:=l5 alc (show k<p.w+1 by omega)
     obtain⟨T2,k1,k2,k3,k4⟩:∃T,iT p i T∧gW M2 B2 T p.lp.m (p.w+1)∧p.u≤B2 i∧∀j,j<k→M2 i j=0:=by
      rcases TA with h9 | ⟨h9,_⟩
      ·exact h9
      ·omega
     have yh:∀q,q<p.lp.m→∀j,j<p.w+1→aN (M2 q j)≤L:=fun q hq j hj=>by rw[k2.eA q hq j hj];exact k1.sz hf j hj q hq
     have anZ:=yh i aP k (by omega);refine ae (aa 2 rfl (aG true rfl rfl (ja (by omega)) (aa 4 rfl (aS ag rfl rfl rfl rfl rfl (abm) (by rw[Int.toNat_natCast];exact gI aP) (by omega) (by omega) fun _=> ?_))));refine aa 1 rfl (aG true rfl rfl (me (by omega)) (aa 1 rfl (ab [1,2,5,7,8,9,13,17,18,145,146,160] ?_)));refine cK rfl (az (ah [1,2,5,7,8,9,13,17,18,145,146] rfl ?_));refine ao (aE (ae (aa 3 rfl (aS ag rfl rfl rfl rfl rfl (oX.hd) (by rw[Int.toNat_natCast];exact kj (rg:=ij.rg) (W:=_) cU) (by omega) (by omega) fun _=> ?_))));refine aa 1 rfl (cj (vs:=[.bool t14.f,.slice t14.A1 t14.m1 t14.c1,.slice t14.A2 t14.m2 t14.c2]) ag rfl rfl rfl rfl (dQ MU) rfl (by decide) (by rw[Int.toNat_natCast];exact IJ) (by omega) (by omega) fun _=> ?_);refine aC rfl rfl (Fn.lR oX.ne (xK (bH.raw x8) (by omega))) ?_;rintro Sf mE ⟨TB,an0,rfl⟩;have zI:=oX.kept TB;refine aa 1 rfl (ab [1,2,5,7,8,9,13,17,18,145,146,172] ?_);refine aD rfl (fun hb=> ?_) (fun hb=> ?_)
     ·
      have bo:M2 i k≠0:=fun h9=>by rw[h9]at hb;simp[fI]at hb
      have hP2:=k1.pivot (by rw[k2.em];exact aP) (by rw[←k2.eB i aP];exact k3) Cz (by rw[←k2.eA i aP k (by omega)];exact bo)
      have hzP:∀q,q<p.lp.m→∀j,j<p.w+1→aN (lZ M2 i k q j)≤L:=fun q hq j hj=>by
       have h9:=k2.pivot (M':=lZ M2 i k) aP (show k<p.w+1 by omega) fun _ _ _ _=>rfl;rw[h9.eA q hq j hj];exact hP2.sz hf j hj q hq
      refine aA rfl (vr 3 ?_);have hP:=aaG zI aP aP (show k<p.w+1 by omega) bo yh hzP (by omega) (by omega) (by omega);rw[Nq]at hP;refine aC rfl rfl hP ?_;rintro v16 E5 ⟨M3,Ji,ald,TC⟩;refine au (ah [1,2,5,7,8,9,13,17,18,145,146] rfl ?_);refine aA rfl (aa 1 rfl (aF rfl rfl ⟨by omega,by omega⟩ (aa 1 rfl (au ?_))));obtain⟨M5,I8⟩:∃M5:Nat→Nat→Rat,M5=fun q=>if q=p.lp.m then lZ M2 i k p.lp.m else M3 q:=⟨_,rfl⟩
      have I9:∀q,q<p.lp.m→M5 q=M3 q:=fun q hq=>by rw[I8];show (if q=p.lp.m then _ else M3 q)=_;rw[if_neg (by omega)]
      exact⟨k+1,M5,_,by omega,ar,Ji.CF fun q hq j _=>by rw[I9 q hq],(z6.trans TB.le).trans TC,fun q hq=>by
       show (if q=i then k else B2 q)<_
       split
       ·omega
       ·
        exact Nr q hq,.inr ⟨by rw[if_pos rfl];exact Cz,T2.pivot i k,hP2,k2.pivot aP (by omega) fun q hq j hj=>by
        by_cases e:q=p.lp.m
        ·
         subst e;rw[I8]
         show (if p.lp.m=p.lp.m then _ else M3 _) j=_
         rw[if_pos rfl]
        ·rw[I9 q (by omega)];exact ald q (by omega) j hj⟩,by omega⟩
     skip
     refine az (ah [1,2,5,7,8,9,13,17,18,145,146] rfl ?_);refine aA rfl (aa 1 rfl (aF rfl rfl ⟨by omega,by omega⟩ (aa 1 rfl (au ?_))))
     exact⟨k+1,M2,B2,by omega,ar,zI,z6.trans TB.le,Nr,.inl ⟨T2,k1,k2,k3,fun j hj=>by
      by_cases e:j=k
      ·subst e;exact vD (by simpa using hb)
      ·exact k4 j (by omega)⟩,by omega⟩
    have hD:∃T,iT p (i+1) T∧gW M2 B2 T p.lp.m (p.w+1):=by
     rcases TA with ⟨T,_,_,k3,_⟩ | h8
     ·omega
     ·exact h8.2
    refine ae (aa 2 rfl (aG true rfl rfl (ja (by omega)) (aa 4 rfl (aS ag rfl rfl rfl rfl rfl (abm) (by rw[Int.toNat_natCast];exact gI aP) (by omega) (by omega) fun _=> ?_))));refine aa 1 rfl (aG false rfl rfl (ql (by omega)) (aa 1 rfl (ab [1,2,5,7,8,9,13,17,18,145,146,160] ?_)));refine dh rfl (aX (ah [1,2,5,7,8,9,13,145,146] rfl ?_));refine aA rfl (aF rfl rfl ⟨by omega,by omega⟩ (aa 1 rfl (au ?_)));exact⟨i+1,M2,B2,by omega,ar,oX,z6,Nr,hD,by omega⟩
   have hD:∃T,iT p (i+1) T∧gW M2 B2 T p.lp.m (p.w+1):=by
    rcases TA with ⟨T,k1,k2,k3,k4⟩ | h8
    ·exact⟨T,k1.skip (by rw[k2.em];exact aP) (.inr fun j hj=>by rw[←k2.eA i aP j (by omega)];exact k4 j (by omega)),k2⟩
    ·exact h8.2
   refine ae (aa 2 rfl (aG false rfl rfl (ia (by omega)) (aa 9 rfl (ab [1,2,5,7,8,9,13,17,18,145,146,160] ?_))));refine dh rfl (aX (ah [1,2,5,7,8,9,13,145,146] rfl ?_));refine aA rfl (aF rfl rfl ⟨by omega,by omega⟩ (aa 1 rfl (au ?_)));exact⟨i+1,M2,B2,by omega,ar,oX,z6,Nr,hD,by omega⟩
  have aP:p.lp.m≤i:=by simpa using hb
  obtain rfl:i=p.lp.m:=by omega
  obtain⟨T3,TD,TE⟩:=CJ;have yo:=eF.trans mB
  have Nj:=ak1 (N1:=2*L) sS (Nat.le_refl _) (hp.le yo) (hc.le (r8 N) yo) fh (by omega) Ai (by omega) (by omega) (by omega) (by omega) (fun i hi k hk=>ak5 hf TD TE hi hk) (fun i hi k hk=>by
   rw[TE.eA i hi k hk];have:=TD.sz hf k hk i hi
   omega)
  rw[Nq,←hW]at Nj;refine aX (ah [1,2,5,7,8,9,13] rfl ?_);refine bM .bJ [0,1,2,3,4,5,6,7,8,9,10] follows (by kernel_rfl) ?_;refine aa 6 rfl (aY rfl rfl Nj (fun _ _ ⟨_,_,_,h⟩=>h) ?_);rintro _ mE ⟨z5,rfl,qa,an1⟩;refine cI Tryz.underlying84 AX rfl rfl rfl rfl rfl rfl rfl ?_;intro gb aV;have Ns:=qa.fresh Aj (e:=whole [.slice (some ⟨z5,0,none⟩) W W] 28) aV;refine dW Tryz.underlying84 AX rfl rfl Ns.q.rows (ea _ _ _ _ _ _) rfl (B0 _ _ _) (by omega) (by omega) ?_;intro v16 E5 E6;obtain⟨Tc,Td,rfl⟩:=E6.own.form;have ale:=Ns.more (MY E6);obtain⟨Nu,vT⟩:=ale.drop;have vT:=mB.trans vT;obtain⟨wi,CL⟩:∃wi,wi=(fun i=>if i=p.lp.m then lC M1 B1 (fa p (fn c) 1 p.lp.n) p.lp.m else M1 i):=⟨_,rfl⟩;rw[←CL]at Nu
  have abn:nV p c (yg wi B1 p.lp.m p.w):=aaC TD TE (fun i hi j hj=>by rw[CL];show (if i=p.lp.m then _ else M1 i) j=_;rw[if_neg (by omega)]) (fun j hj=>by
   rw[CL]
   show (if p.lp.m=p.lp.m then(_:Nat→Rat)else _) j=_
   rw[if_pos rfl])
  obtain⟨Fa,rfl,rfl,abo,Nu,vT⟩:∃Fa:GG,Fa.Ar=Tc∧Fa.cr=Td∧Fa.bv = .slice Ab p.lp.m cb∧cA iG E5 Fa (p.lp.m+1) (p.w+1) p.lp.m wi B1∧Heap.le (rem H3 G.gs) (rem E5 Fa.gs):=⟨ij.more ij.top z5 W Tc Td p.lp.m,rfl,rfl,Nq,by rw[←hW];exact Nu,vT⟩;refine vr 1 ?_;obtain⟨ti,aj,ak⟩:=J7;refine aH (.inr rfl) rfl rfl rfl aj ak rfl rfl rfl (ab [1,2,5,7,8,9,13] ?_);refine ae (vr 2 ?_);have hI:=aaO (u:=p.u) Nu (by omega) (by omega) (by omega) (fun T r s=>nV.step) abn MT abn.acc Ai (fun T hT=>hT.sz hf) (by omega);rw[abo]at hI;refine aC rfl rfl hI ?_;rintro _ Te ⟨Tf,Tg,Ja,T2,rfl,alf,Th,CN,rj,Na,Tj,Tk⟩;have ER:=vT.trans Th
  have hV:=ak2 (N1:=L) alf (by omega) (hp.le (eF.trans ER)) (by omega) (by omega) Na (by omega) (by omega) (by omega) hL1 (fun i hi=>by
   rw[rj.eA i hi _ (by omega)];exact(CN.sz hf _ (by omega)).2 i hi)
  rw[abo,←hW,show W-1=p.w by omega]at hV
  have hvz:∀q,q∈aK (jG p (iH Tf Tg p.w p.lp.m)) p.free.length→aN q≤2*L+17:=fun q hq=>by
   obtain⟨j,hj,rfl⟩:=Ce hq;have:=ak0 (p:=p) (fun j=>abi (M:=Tf) (B:=Tg) (n:=p.w) (N:=L) hL1 (fun i hi=>by rw[rj.eA i hi _ (by omega)];exact(CN.sz hf _ (by omega)).2 i hi) j p.lp.m (Nat.le_refl _)) j
   omega
  refine aa 1 rfl (ab [1,2,5,7,9,13,19] ?_);refine ae (aa 3 rfl (aC rfl rfl hV ?_));rintro xv Rv ⟨Jb,Jc⟩;have Nv:=(ER.trans (bD _ _)).trans Jb;refine aa 1 rfl (ab [1,5,9,19,20] ?_);refine ao (ae (aa 2 rfl (ab [1,5,9,20,196] ?_)));refine aD rfl (fun hb=> ?_) (fun hb=> ?_)
  ·
   have hb:Ja=false:=by simpa using hb
   obtain⟨s2,k1,k2,k3⟩:=Tk hb
   have hS:qb p c 3 0:=CN.unb bO fh k1 (by rw[←rj.ec s2 (by omega)];exact k2) fun i hi=>by rw[rj.em]at hi;rw[←rj.eA i hi s2 (by omega)];exact k3 i hi
   refine bM .bJ [0,1,2,3,4] follows (by kernel_rfl) ?_;refine vr 3 ?_;obtain⟨ti,aj,ak⟩:=aU;refine aH (.inl ⟨rfl,rfl⟩) rfl rfl rfl aj ak rfl rfl rfl (aa 1 rfl (ab [4,5,6] ?_));obtain⟨Np,yr,yt⟩:=aU;refine aB ⟨.inr rfl,_,.tmp rfl (.agg rfl Tryz.underlying38 yr yt (.tmp rfl (.nil))),?_⟩;exact⟨eF.trans Nv,3,t9,xv,0,rfl,hS,fW.le Nv,Jg hf hS,fun h9=>absurd h9 (by decide)⟩
  have hb:Ja=true:=by simpa using hb
  have Tl:∀j,j<p.u→0≤T2.c j:=fun j hj=>by rw[←rj.ec j (by omega)];exact Tj hb j hj
  have hS:=CN.opt bO fh Tl rj;refine az (ah [1,5,20] rfl ?_);refine ae (aa 2 rfl (aC rfl rfl (aaP (N:=400000000) ((hc.le (r8 N) (eF.trans Nv)).abl hN) (Jc.zL fun q hq=>Nat.le_trans (hvz q hq) (by omega)) (by rw[bB];omega) (by omega) (Nat.le_refl _)) ?_));rintro _ zB ⟨Al,t20,rfl,tZ⟩;rw[fh]at tZ;refine vr 2 ?_;obtain⟨ti,aj,ak⟩:=aU;refine aH (.inl ⟨rfl,rfl⟩) rfl rfl rfl aj ak rfl rfl rfl (aa 1 rfl (ab [4,5,6] ?_));obtain⟨Np,yr,yt⟩:=aU;refine aB ⟨.inr rfl,_,.tmp rfl (.agg rfl Tryz.underlying38 yr yt (.tmp rfl (.nil))),?_⟩;exact⟨(eF.trans Nv).trans Al,1,t20,xv,_,rfl,hS,tZ,Jg hf hS,fun _=>⟨_,Jc.le cX Al,bB _ _,hvz,rfl⟩⟩
end Go.aq
