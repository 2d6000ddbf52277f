/- Part 6 of the proof: Tab5, Tab6, Tab7, Eng13, Tab8, Ref1, Ref2, Ref3, Ref4. -/
import Derived.Test.YtdjoookebbbjkaaGreatA05
set_option linter.unusedVariables false
namespace Go.aq
open Go.Proofs Num Lp
def TL.pF(L:TL)(j:Nat):Nat:=L.plus.getD j 0
def TL.mZ(L:TL)(j:Nat):Int:=L.minus.getD j (-1)
def TL.mF(L:TL)(j:Nat):Option Nat:=if 0≤L.mZ j then some (L.mZ j).toNat else none
def TL.uF(L:TL)(i:Nat):Nat:=L.kf.getD i 0
def TL.sF(L:TL)(i:Nat):Rat:=fn L.jR i
structure TL.Ok(L:TL)(n m:Nat):Prop where
 Ld:L.plus.length=n
 Le:L.minus.length=n
 PE:L.kf.length=m
 PF:L.jR.length=m
 pw:∀j,j<n→L.pF j<L.w
 mw:∀j,j<n→L.mZ j<L.w
 uw:∀i,i<m→L.uF i<L.w
 s1:∀i,i<m→aM (L.sF i)≤1
section
variable {L:TL} {n m:Nat}
theorem TL.Ok.p(h:L.Ok n m){j:Nat}(hj:j<n):L.plus[j]? = some (L.pF j):=by
 have:j<L.plus.length:=by rw[h.Ld];exact hj
 simp[TL.pF,List.getD,List.getElem?_eq_getElem this]
theorem TL.Ok.mi(h:L.Ok n m){j:Nat}(hj:j<n):L.minus[j]? = some (L.mZ j):=by
 have:j<L.minus.length:=by rw[h.Le];exact hj
 simp[TL.mZ,List.getD,List.getElem?_eq_getElem this]
theorem TL.Ok.u(h:L.Ok n m){i:Nat}(hi:i<m):L.kf[i]? = some (L.uF i):=by
 have:i<L.kf.length:=by rw[h.PE];exact hi
 simp[TL.uF,List.getD,List.getElem?_eq_getElem this]
theorem TL.Ok.s(h:L.Ok n m){i:Nat}(hi:i<m):L.jR[i]? = some (L.sF i):=by
 have:i<L.jR.length:=by rw[h.PF];exact hi
 simp[TL.sF,fn,List.getD,List.getElem?_eq_getElem this]
end
theorem agx{α:Type}(l:List α)(k:Nat)(a b:α):(l.set k a).set k b=l.set k b:=by simp
theorem PG{K:Heap}{xs vs:List Value}{l:List (Option Rat)}{k:Nat}{q:Rat}(h:bG (iw bQ K) 3 xs l)(hk:k<l.length)(hv:bQ K vs q):bG (iw bQ K) 3 (aL xs (k*3) vs) (l.set k (some q)):=h.set hk (show iw bQ K vs (some q)from hv) hv.len
theorem Xm{K:Heap}{xs:List Value}{f:Nat→Rat}{n:Nat}(h:bG (iw bQ K) 3 xs (fill (aK f n) n)):bG (bQ K) 3 xs (aK f n):=DJ (by rw[bh];exact h)
theorem Xn{H:Heap}{G:TG}{L:TL}{T:av}{n m N:Nat}{v:Value}{f:Nat→Rat}(h:dF H G L T)(hL:L.Ok n m)(hv:aN bQ 3 (rem H G.gs) v (aK f L.w))(hf:∀j,j<L.w→aM (f j)≤N)(hN:(N:Int)≤274877906944)(hw:(L.w:Int)≤1000000)(hn:(n:Int)≤1000000):
 Fn Tryz.prog 132 #[.pointer (some ⟨G.g,0,none⟩),v] H (DX cg 3 G.gs H (aK (dL.vec L.pF L.mF f) n)):=by
 obtain⟨Av,cv,xv,rfl,lg,po⟩:=hv.num
 rw[bh]
 have GM:=h.self
 obtain⟨Ap,cp,xp,sG,gT,ld⟩:=GM.plus.one
 obtain⟨Am,cm,xm,vJ,kG,xx⟩:=GM.minus.one
 rw[hL.Ld]at sG
 rw[hL.Le]at vJ
 obtain⟨l,hl⟩:∃l,l=dL.vec L.pF L.mF f:=⟨_,rfl⟩
 have cA:cell H ((⟨G.g,0,none⟩:Addr).add 2)=some (.slice Ap n cp):=by rw[←sG];exact h.cell rfl
 refine aY (args:=[_,_]) Tryz.func132 rfl rfl Tryz.ntmps132 rfl rfl fun w0=> ?_;refine ah [0,1] rfl ?_;refine ae (aa 1 rfl (ab [0,1] ?_));refine ae (aa 2 rfl (aV ag rfl rfl rfl (aR ag rfl rfl rfl (cA) (aa 1 rfl (gO Tryz.underlying117 fh rfl rfl rfl (by omega) (by omega) (by omega) (by omega) ?_)))));intro z jh;rw[show ((n:Int)).toNat=n from by omega];have kH:ft G.gs H _ z (cR [.int .i64 0,.int .i64 0,.pointer none] (n*3)) (n*3) 121:=ft.new h.ne jh
 have iE:bG (iw bQ (rem (ins H z ⟨cR [.int .i64 0,.int .i64 0,.pointer none] (n*3),n*3,121,true⟩) (z::G.gs))) 3 (cR [.int .i64 0,.int .i64 0,.pointer none] (n*3)) (fill (aK l n) 0):=by have:=Bs (P:=bQ) (H:=rem (ins H z ⟨cR [.int .i64 0,.int .i64 0,.pointer none] (n*3),n*3,121,true⟩) (z::G.gs)) (zs:=[.int .i64 0,.int .i64 0,.pointer none]) (sz:=3) (by rfl) (aK l n);rwa [bh]at this
 refine aa 1 rfl (ab [0,1,5] ?_);refine ao (ae (aa 3 rfl (ab [0,1,5,14,15] ?_)));refine aE (fX (fun(k:Nat)(xs:List Value)=>n-k) (fun(k:Nat)(xs:List Value)=>put (put (put (put (put (emp) 0 (.val (.pointer (some ⟨G.g,0,none⟩)))) 1 (.val (.slice Av L.w cv))) 5 (.val (.slice (some ⟨z,0,none⟩) n n))) 14 (.val (.int .i64 (n:Int)))) 15 (.val (.int .i64 (k:Int)))) (fun(k:Nat)(xs:List Value) H'=>ft G.gs H H' z xs (n*3) 121∧bG (iw bQ (rem H' (z::G.gs))) 3 xs (fill (aK l n) k)∧k≤n) 0 _ (⟨kH,iE,Nat.zero_le _⟩) ar ?_);rintro k xs H2 ⟨eQ,lf,fP⟩;have kF:=m9 (l:=aK l n) (k:=k) (by rw[bh];exact fP);rw[bh]at kF;have cY:=lf.len;rw[kF]at cY;have jE:=eQ.tab h;have kY:=eQ.hle;refine ae (aa 1 rfl (ab [0,1,5,14,15,16] ?_));refine ao (aD rfl (fun hb=> ?_) (fun hb=> ?_))
 ·
  have gw:k<n:=by simpa using hb
  obtain⟨up,GN,GO⟩:=ld k _ (hL.p gw);obtain⟨um,zd,GP⟩:=xx k _ (hL.mi gw)
  cases GO
  cases GP
  have yn:=hL.pw k gw;have Xo:=hL.mw k gw;obtain⟨n1,d1,b1,du,fK⟩:=po _ _ (dD yn);have iZ:=hf _ yn;have agy:=gT.le kY;have amT:=kG.le kY;have DY:=(lg.le eQ.le).le (bF _ _)
  have agz:cell H2 ((⟨G.g,0,none⟩:Addr).add 2)=some (.slice Ap n cp):=by rw[←sG];exact jE.cell 2 _ rfl
  refine aw (ah [0,1,5,14,15] rfl ?_);refine ao (aE (ae (aa 2 rfl (ab [0,1,5,6,14,15] ?_))));refine ae (aa 5 rfl (aV ag rfl rfl rfl (aR ag rfl rfl rfl (agz) (aa 1 rfl (aS ag rfl rfl rfl rfl rfl (agy) (by rw[Int.toNat_natCast];exact GN) (by omega) (by omega) fun _=> ?_)))));refine bY (vs:=[.int .i64 n1,.int .i64 d1,.pointer b1]) ag rfl rfl rfl rfl DY rfl (by decide) (by rw[Int.toNat_natCast];exact fK) (by omega) (by omega) fun _=> ?_;obtain⟨ti,aj,ak⟩:=cL;refine cT (.inl rfl) ag rfl rfl rfl (by omega) (by omega) (eQ.aC) rfl (by show 0+n*3≤xs.length;omega) aj ak (fun _=>rfl) rfl rfl rfl fun _=> ?_;refine ab [0,1,5,6,14,15] ?_;have kg:ft G.gs H _ z (aL xs (k*3) [.int .i64 n1,.int .i64 d1,.pointer b1]) (n*3) 121:=eQ.set (oW (k:=k) (sz:=3))
  have xz:bG (iw bQ (rem (ins H2 z {(⟨xs,n*3,121,true⟩:Ent)with xs:=aL xs (0+k*3) [.int .i64 n1,.int .i64 d1,.pointer b1]}) (z::G.gs))) 3 (aL xs (k*3) [.int .i64 n1,.int .i64 d1,.pointer b1]) ((fill (aK l n) k).set k (some (f (L.pF k)))):=by
   rw[cJ _ (List.mem_cons_self ..)];exact PG lf (by rw[kF];exact gw) (du.le eQ.le)
  generalize hH3:ins H2 z {(⟨xs,n*3,121,true⟩:Ent)with xs:=aL xs (0+k*3) [.int .i64 n1,.int .i64 d1,.pointer b1]}=H3 at kg xz
  have agA:ins H2 z {(⟨xs,n*3,121,true⟩:Ent)with xs:=aL xs (0+((k:Int)).toNat*3) [.int .i64 n1,.int .i64 d1,.pointer b1]}=H3:=hH3;rw[show ∀e:Ent,e = {(⟨xs,n*3,121,true⟩:Ent)with xs:=aL xs (0+((k:Int)).toNat*3) [.int .i64 n1,.int .i64 d1,.pointer b1]}→ins H2 z e=H3 from fun e he=>by rw[he];exact agA]
  rotate_left
  ·rfl
  have Oy:=kg.tab h;have Xp:=kG.le kg.hle;have agB:=(lg.le kg.le).le (bF _ _)
  have dK:cell H3 ((⟨G.g,0,none⟩:Addr).add 3)=some (.slice Am n cm):=by rw[←vJ];exact Oy.cell 3 _ rfl
  refine ae (aa 2 rfl (aV ag rfl rfl rfl (aR ag rfl rfl rfl (dK) (aa 1 rfl (aS ag rfl rfl rfl rfl rfl (Xp) (by rw[Int.toNat_natCast];exact zd) (by omega) (by omega) fun _=> ?_)))));refine aa 1 rfl (ab [0,1,5,6,14,15,38] ?_);refine aD rfl (fun hb=> ?_) (fun hb=> ?_)
  ·
   have hb:0≤L.mZ k:=by simpa using hb
   obtain⟨n2,d2,b2,ia,eT⟩:=po _ _ (dD (show (L.mZ k).toNat<L.w by omega));have jN:=hf (L.mZ k).toNat (by omega)
   have ic:∀(j:Nat)(u:Value),[.int .i64 n1,.int .i64 d1,.pointer b1][j]? = some u→(aL xs (k*3) [.int .i64 n1,.int .i64 d1,.pointer b1])[k*3+j]? = some u:=fun j u hu=>by
    have hj:=(List.getElem?_eq_some_iff.1 hu).1
    simp only[List.length_cons,List.length_nil]at hj
    rw[OX _ _ _ _ (by simp only[List.length_cons,List.length_nil];omega),if_pos (by simp only[List.length_cons,List.length_nil];omega),Nat.add_sub_cancel_left];exact hu
   refine eK .gD [0,1,2,3,4,5,6,7,8,9,10,11,12,13,14,15,16,17,18] follows (by kernel_rfl) ?_;refine aa 4 rfl (bY (vs:=[.int .i64 n1,.int .i64 d1,.pointer b1]) ag rfl rfl rfl rfl (dQ kg.aC) rfl (by decide) (by rw[Int.toNat_natCast];exact ic) (by omega) (by omega) fun _=> ?_);refine aa 3 rfl (aV ag rfl rfl rfl (aR ag rfl rfl rfl (dK) (aa 1 rfl (aS ag rfl rfl rfl rfl rfl (Xp) (by rw[Int.toNat_natCast];exact zd) (by omega) (by omega) fun _=> ?_))));refine bY (vs:=[.int .i64 n2,.int .i64 d2,.pointer b2]) ag rfl rfl rfl rfl agB rfl (by decide) eT (by omega) (by omega) fun _=>(aW rfl rfl (Fn.lD (kg.ne h.ne) (DI (N:=N) (du.le kg.le) (ia.le kg.le) iZ jN (by omega))) (fun _ _ h=>by first | exact h.le | exact h.1) ?_);rintro v4 H4 ⟨gy,cM,n4,d4,b4,rfl,cn⟩;have sH:=kg.kept gy
   have amU:(aL xs (k*3) [.int .i64 n1,.int .i64 d1,.pointer b1]).length=n*3:=by rw[Fz];exact cY
   obtain⟨ti,aj,ak⟩:=cL;refine cT (.inr rfl) ag rfl rfl rfl (by omega) (by omega) (sH.aC) rfl (by show 0+n*3≤(aL xs (k*3) [.int .i64 n1,.int .i64 d1,.pointer b1]).length;omega) aj ak (fun _=>rfl) rfl rfl rfl fun _=> ?_;refine au (ah [0,1,5,14,15] rfl ?_);refine aA rfl (aF rfl rfl ⟨by omega,by omega⟩ (aa 1 rfl (au ?_)));exact⟨k+1,aL (aL xs (k*3) [.int .i64 n1,.int .i64 d1,.pointer b1]) (k*3) [.int .i64 n4,.int .i64 d4,.pointer b4],by omega,ar,sH.set oW,by rw[cJ _ (List.mem_cons_self ..),←y7 (a:=f (L.pF k)-f (L.mZ k).toNat) (by rw[dD gw,hl];unfold dL.vec TL.mF;rw[if_pos hb];rfl),←agx (fill (aK l n) k) k (some (f (L.pF k)))];exact PG (xz.mono fun vs a=>iw.up jg _ _ vs a gy.le) (by rw[List.length_set,kF];exact gw) cn,by omega⟩
  ·
   have hb:¬0≤L.mZ k:=by simpa using hb
   refine aw (ah [0,1,5,14,15] rfl ?_);refine aA rfl (aF rfl rfl ⟨by omega,by omega⟩ (aa 1 rfl (au ?_)));exact⟨k+1,aL xs (k*3) [.int .i64 n1,.int .i64 d1,.pointer b1],by omega,ar,kg,by rw[←y7 (a:=f (L.pF k)) (by rw[dD gw,hl];unfold dL.vec TL.mF;rw[if_neg hb];simp only[iB];rw[show f (L.pF k)-0=f (L.pF k) by grind])];exact xz,by omega⟩
 ·
  have hb:n≤k:=by simpa using hb
  obtain rfl:k=n:=by omega
  have l5:=eQ.done;refine aU (ah [5] rfl ?_);refine ae (vr 1 ?_)
  refine aB rfl rfl (Fn.Lb (l5.1.ne h.ne) (WE (l:=aK l k) ⟨some ⟨z,0,none⟩,k,xs,by rw[bh],by rw[bh];exact Nat.le_refl _,eQ.rd,(Xm lf).mono fun vs a=>jg _ _ vs a l5.2⟩ (fun q hq=>by
  obtain⟨j,hj,rfl⟩:=List.mem_map.1 hq;have hj:=List.mem_range.1 hj;rw[hl];have h1:=hf _ (hL.pw j hj);have h2:=hL.mw j hj
  unfold dL.vec TL.mF
  split
  ·
   have h3:=hf (L.mZ j).toNat (by omega);have h4:=so (f (L.pF j)) (f (L.mZ j).toNat)
   simp only[iB];omega
  ·
   have h4:=so (f (L.pF j)) 0;rw[WB]at h4
   simp only[iB];omega) (by rw[bh];omega))) ?_
  rintro v9 H9 ⟨gG,ea,sI⟩;refine aa 1 rfl (ab [4] ?_);refine az ⟨.inr rfl,_,.tmp rfl (.nil),?_⟩;exact⟨l5.1.trans gG,eQ.hle.trans ea,by rw[←hl];exact sI⟩
end Go.aq
namespace Go.aq
open Go.Proofs Num Lp
def ze(T:av)(k j:Nat):Rat:=aZ k (fun i=>if T.B i=j then T.A i T.n else 0)
def BA(T:av)(s k j:Nat):Rat:=(if j=s then 1 else 0)-aZ k (fun i=>if T.B i=j then T.A i s else 0)
theorem agC{T:av}(hW:T.WF){k:Nat}(hk:k<T.m)(j:Nat):ze T (k+1) j=bT (ze T k) (T.B k) (T.A k T.n) j:=by
 unfold ze bT
 rw[gn]
 by_cases e:j=T.B k
 ·rw[if_pos e,if_pos e.symm,lA]
  ·grind
  ·intro i hi
   rw[if_neg (fun e'=>by have:=hW.inj (by omega) hk (e'.trans e);omega)]
 ·rw[if_neg e,if_neg (fun e'=>e e'.symm)];grind
theorem agD{T:av}{j:Nat}(hj:j<T.n):ze T T.m j=T.pt j:=by
 unfold ze av.pt
 rw[if_neg (by omega)]
theorem agE{T:av}(hW:T.WF){s k:Nat}(hs:∀i,i<T.m→T.B i≠s)(hk:k<T.m)(j:Nat):BA T s (k+1) j=bT (BA T s k) (T.B k) (-(T.A k s)) j:=by
 unfold BA bT
 rw[gn]
 by_cases e:j=T.B k
 ·rw[if_pos e,if_pos e.symm,lA,if_neg (fun e'=>hs k hk (by rw[←e,e']))]
  ·grind
  ·intro i hi
   rw[if_neg (fun e'=>by have:=hW.inj (by omega) hk (e'.trans e);omega)]
 ·rw[if_neg e]
  have e2:(if T.B k=j then T.A k s else 0)=0:=if_neg (fun e'=>e e'.symm)
  rw[e2];grind
theorem Xq{H:Heap}{G:TG}{L:TL}{T:av}{n m N:Nat}(h:dF H G L T)(hW:T.WF)(hL:L.Ok n m)(hz:∀j,j<L.w→aM (T.pt j)≤N)(hN:(N:Int)≤274877906944)(hw:(L.w:Int)≤1000000)(hn:(n:Int)≤1000000)(hm:(T.m:Int)≤1000000):
 Fn Tryz.prog 93 #[.pointer (some ⟨G.g,0,none⟩)] H (DX cg 3 G.gs H (aK (dL.vec L.pF L.mF T.pt) n)):=by
 obtain⟨Ab,cb,dy,_⟩:=h.self.bv;refine aY (args:=[_]) Tryz.func93 rfl rfl Tryz.ntmps93 rfl rfl fun w0=> ?_;refine ah [0] rfl ?_;refine ae (aa 1 rfl (ab [0] ?_));refine ae (aa 2 rfl (aV ag rfl rfl rfl (aR ag rfl rfl rfl (h.iS) (aB rfl rfl (GJ h.ne (by omega)) ?_))));rintro v1 H1 ⟨bg,z,xs,rfl,kH,iE⟩;have gE:=kH.tab h;refine aa 1 rfl (ab [0,3] ?_);refine ao (ae (aa 2 rfl (aV ag rfl rfl rfl (aR ag rfl rfl rfl (show cell H1 _=some (.slice Ab T.m cb)from by rw[←dy];exact gE.cell 8 _ rfl) ?_))));refine aa 2 rfl (ab [0,3,14,15,16] ?_);refine aE (fX (fun(k:Nat)(xs:List Value)=>T.m-k) (fun(k:Nat)(xs:List Value)=>put (put (put (put (put (emp) 0 (.val (.pointer (some ⟨G.g,0,none⟩)))) 3 (.val (.slice (some ⟨z,0,none⟩) L.w L.w))) 14 (.val (.slice Ab T.m cb))) 15 (.val (.int .i64 (T.m:Int)))) 16 (.val (.int .i64 (k:Int)))) (fun(k:Nat)(xs:List Value) H'=>ft G.gs H H' z xs (L.w*3) 121∧bG (bQ (rem H' (z::G.gs))) 3 xs (aK (ze T k) L.w)∧k≤T.m) 0 xs (⟨kH,by rw[la (f:=ze T 0) (g:=fun _=>0) (fun j _=>rfl)];exact iE _,Nat.zero_le _⟩) ar ?_);rintro k xs H2 ⟨eQ,lf,fP⟩;have jE:=eQ.tab h;have cY:=lf.len;rw[bh]at cY
 refine ae (aa 1 rfl (ab [0,3,14,15,16,17] ?_));refine ao (aD rfl (fun hb=> ?_) (fun hb=> ?_))
 ·
  have fV:k<T.m:=by simpa using hb
  obtain⟨PD,xt,ic⟩:=jE.rows;obtain⟨pk,qH,yV⟩:=ic k fV;have GQ:=hW.lt k fV;rw[h.n]at GQ;obtain⟨A3,c3,sJ,BB⟩:=jE.bv;rw[dy]at sJ
  obtain⟨rfl,-,rfl⟩:Ab=A3∧T.m=T.m∧cb=c3:=by simpa using sJ
  have fM:=jE.cell 6 _ rfl;obtain⟨xw,n1,d1,b1,GB,du,GC⟩:=yV.rd (dD (show L.w<L.w+1 by omega));refine aw (ah [0,3,14,15,16] rfl ?_);refine ao (aE (ae (aa 1 rfl (aS ag rfl rfl rfl rfl rfl (BB) (by rw[Int.toNat_natCast];exact gQ fV) (by omega) (by omega) fun _=> ?_))));refine aa 2 rfl (ab [0,3,4,5,14,15,16] ?_);refine eK .gD [0,1,2,3,4,5,6,7,8,9,10,11,12,13,14,15,16] follows (by kernel_rfl) ?_;refine aa 4 rfl (aV ag rfl rfl rfl (aR ag rfl rfl rfl (fM) (aa 1 rfl (aS ag rfl rfl rfl rfl rfl (xt) (by rw[Int.toNat_natCast];exact qH) (by omega) (by omega) fun _=> ?_))));refine aa 2 rfl (aV ag rfl rfl rfl (aR ag rfl rfl rfl (by have:=jE.cell 0 _ rfl;rwa [iu]at this) ?_));refine bY (vs:=[.int .i64 n1,.int .i64 d1,.pointer b1]) ag rfl rfl rfl rfl GB rfl (by decide) (by rw[Int.toNat_natCast];exact GC) (by omega) (by omega) fun _=> ?_;obtain⟨ti,aj,ak⟩:=cL;refine cT (.inr rfl) ag rfl rfl rfl (by omega) (by omega) (eQ.aC) rfl (by show 0+L.w*3≤xs.length;omega) aj ak (fun _=>rfl) rfl rfl rfl fun _=> ?_;refine au (ah [0,3,14,15,16] rfl ?_);refine aA rfl (aF rfl rfl ⟨by omega,by omega⟩ ?_)
  refine aa 1 rfl (au ?_);exact⟨k+1,aL xs (T.B k*3) [.int .i64 n1,.int .i64 d1,.pointer b1],by omega,ar,eQ.set (by rw[Int.toNat_natCast];exact oW),by rw[cJ _ (List.mem_cons_self ..),la (g:=bT (ze T k) (T.B k) (T.A k T.n)) (fun j _=>agC hW fV j),h.n];exact sE lf GQ du,by omega⟩
 ·
  have hb:T.m≤k:=by simpa using hb
  obtain rfl:k=T.m:=by omega
  have l5:=eQ.done;rw[la (g:=T.pt) (fun j hj=>agD (by rw[h.n];exact hj))]at lf;refine aU (ah [0,3] rfl ?_);refine ae (aa 2 rfl (aB rfl rfl (Xn (h.kept l5.1) hL (v:= .slice (some ⟨z,0,none⟩) L.w L.w) (f:=T.pt) ⟨some ⟨z,0,none⟩,L.w,xs,by rw[bh],by rw[bh];exact Nat.le_refl _,eQ.rd,lf.mono fun vs a=>jg _ _ vs a l5.2⟩ hz hN hw hn) ?_));rintro v9 H9 ⟨gG,ea,sI⟩;refine aa 1 rfl (ab [2] ?_);refine az ⟨.inr rfl,_,.tmp rfl (.nil),?_⟩;exact⟨l5.1.trans gG,eQ.hle.trans ea,sI⟩
theorem agF{H:Heap}{G:TG}{L:TL}{T:av}{n m N s:Nat}(h:dF H G L T)(hW:T.WF)(hL:L.Ok n m)(hs:s<L.w)(DZ:∀i,i<T.m→T.B i≠s)(cP:∀i,i<T.m→aM (T.A i s)≤N)(hz:∀j,j<L.w→aM (T.dir s j)≤N)(hN:(N:Int)≤274877906944)(hw:(L.w:Int)≤1000000)(hn:(n:Int)≤1000000)(hm:(T.m:Int)≤1000000):
 Fn Tryz.prog 94 #[.pointer (some ⟨G.g,0,none⟩),.int .i64 (s:Int)] H (DX cg 3 G.gs H (aK (dL.vec L.pF L.mF (T.dir s)) n)):=by
 obtain⟨Ab,cb,dy,_⟩:=h.self.bv;refine aY (args:=[_,_]) Tryz.func94 rfl rfl Tryz.ntmps94 rfl rfl fun w0=> ?_;refine ah [0,1] rfl ?_;refine ae (aa 1 rfl (ab [0,1] ?_));refine ae (aa 2 rfl (aV ag rfl rfl rfl (aR ag rfl rfl rfl (h.iS) (aB rfl rfl (GJ h.ne (by omega)) ?_))));rintro v1 H1 ⟨bg,z,xs,rfl,kH,iE⟩;have agG:=(iE H).len;rw[bh]at agG;refine aa 1 rfl (ab [0,1,5] ?_);refine ae (aa 2 rfl (aB rfl rfl (wZ) ?_));rintro v3 H3 ⟨e3,rfl⟩;rw[e3];obtain⟨ti,aj,ak⟩:=cL;refine cT (.inl rfl) ag rfl rfl rfl (by omega) (by omega) (kH.aC) rfl (by show 0+L.w*3≤xs.length;omega) aj ak (fun _=>rfl) rfl rfl rfl fun _=> ?_;refine ab [0,1,5] ?_;have D3:ft G.gs H (ins H1 z {(⟨xs,L.w*3,121,true⟩:Ent)with xs:=aL xs (0+((s:Int)).toNat*3) [.int .i64 1,.int .i64 1,.pointer none]}) z (aL xs (s*3) [.int .i64 1,.int .i64 1,.pointer none]) (L.w*3) 121:=kH.set (by rw[Int.toNat_natCast];exact oW);have gE:=D3.tab h;refine ao (ae (aa 2 rfl (aV ag rfl rfl rfl (aR ag rfl rfl rfl (show cell _ _=some (.slice Ab T.m cb)from by rw[←dy];exact gE.cell 8 _ rfl) ?_))));refine aa 2 rfl (ab [0,1,5,20,21,22] ?_)
 refine aE (fX (fun(k:Nat)(xs:List Value)=>T.m-k) (fun(k:Nat)(xs:List Value)=>put (put (put (put (put (put (emp) 0 (.val (.pointer (some ⟨G.g,0,none⟩)))) 1 (.val (.int .i64 (s:Int)))) 5 (.val (.slice (some ⟨z,0,none⟩) L.w L.w))) 20 (.val (.slice Ab T.m cb))) 21 (.val (.int .i64 (T.m:Int)))) 22 (.val (.int .i64 (k:Int)))) (fun(k:Nat)(xs:List Value) H'=>ft G.gs H H' z xs (L.w*3) 121∧bG (bQ (rem H' (z::G.gs))) 3 xs (aK (BA T s k) L.w)∧k≤T.m) 0 (aL xs (s*3) [.int .i64 1,.int .i64 1,.pointer none]) (⟨D3,by rw[la (g:=bT (fun _=>0) s 1) (fun j _=>by unfold BA bT;rw[DD];split <;> grind)];exact sE (iE _) hs (wY _ (n:=1) (by decide) (by decide)),Nat.zero_le _⟩) ar ?_);rintro k xs H2 ⟨eQ,lf,fP⟩;have jE:=eQ.tab h;have cY:=lf.len;rw[bh]at cY;refine ae (aa 1 rfl (ab [0,1,5,20,21,22,23] ?_));refine ao (aD rfl (fun hb=> ?_) (fun hb=> ?_))
 ·
  have fV:k<T.m:=by simpa using hb
  obtain⟨PD,xt,ic⟩:=jE.rows;obtain⟨pk,qH,yV⟩:=ic k fV;have GQ:=hW.lt k fV;rw[h.n]at GQ;obtain⟨A3,c3,sJ,BB⟩:=jE.bv;rw[dy]at sJ
  obtain⟨rfl,-,rfl⟩:Ab=A3∧T.m=T.m∧cb=c3:=by simpa using sJ
  have fM:=jE.cell 6 _ rfl;obtain⟨xw,n1,d1,b1,GB,du,GC⟩:=yV.rd (dD (show s<L.w+1 by omega));have PA:=cP k fV;refine aw (ah [0,1,5,20,21,22] rfl ?_);refine ao (aE (ae (aa 1 rfl (aS ag rfl rfl rfl rfl rfl (BB) (by rw[Int.toNat_natCast];exact gQ fV) (by omega) (by omega) fun _=> ?_))));refine aa 2 rfl (ab [0,1,5,6,7,20,21,22] ?_);refine aA rfl (aa 4 rfl (aV ag rfl rfl rfl (aR ag rfl rfl rfl (fM) (aa 1 rfl (aS ag rfl rfl rfl rfl rfl (xt) (by rw[Int.toNat_natCast];exact qH) (by omega) (by omega) fun _=> ?_)))));refine aa 1 rfl (bY (vs:=[.int .i64 n1,.int .i64 d1,.pointer b1]) ag rfl rfl rfl rfl GB rfl (by decide) (by rw[Int.toNat_natCast];exact GC) (by omega) (by omega) fun _=> ?_);refine aB rfl rfl (Fn.lD (eQ.ne h.ne) (DC du (by omega))) ?_;rintro v4 H4 ⟨gy,cM,n4,d4,b4,rfl,cn⟩;have sH:=eQ.kept gy;obtain⟨ti,aj,ak⟩:=cL;refine cT (.inl rfl) ag rfl rfl rfl (by omega) (by omega) (sH.aC) rfl (by show 0+L.w*3≤xs.length;omega) aj ak (fun _=>rfl) rfl rfl rfl fun _=> ?_;refine au (ah [0,1,5,20,21,22] rfl ?_);refine aA rfl (aF rfl rfl ⟨by omega,by omega⟩ (vr 1 ?_))
  refine au ?_;exact⟨k+1,aL xs (T.B k*3) [.int .i64 n4,.int .i64 d4,.pointer b4],by omega,ar,sH.set (by rw[Int.toNat_natCast];exact oW),by rw[cJ _ (List.mem_cons_self ..),la (g:=bT (BA T s k) (T.B k) (-(T.A k s))) (fun j _=>agE hW DZ fV j)];exact sE (lf.mono fun vs a=>jg _ _ vs a gy.le) GQ cn,by omega⟩
 ·
  have hb:T.m≤k:=by simpa using hb
  obtain rfl:k=T.m:=by omega
  have l5:=eQ.done;rw[la (f:=BA T s T.m) (g:=T.dir s) (fun j hj=>rfl)]at lf;refine aU (ah [0,5] rfl ?_);refine ae (aa 2 rfl (aB rfl rfl (Xn (h.kept l5.1) hL (v:= .slice (some ⟨z,0,none⟩) L.w L.w) (f:=T.dir s) ⟨some ⟨z,0,none⟩,L.w,xs,by rw[bh],by rw[bh];exact Nat.le_refl _,eQ.rd,lf.mono fun vs a=>jg _ _ vs a l5.2⟩ hz hN hw hn) ?_));rintro v9 H9 ⟨gG,ea,sI⟩;refine aa 1 rfl (ab [4] ?_);refine az ⟨.inr rfl,_,.tmp rfl (.nil),?_⟩;exact⟨l5.1.trans gG,eQ.hle.trans ea,sI⟩
theorem Xr{H:Heap}{G:TG}{L:TL}{T:av}{n m N:Nat}{v:Value}{f:Nat→Rat}(h:dF H G L T)(hc:iR H G L T)(hL:L.Ok n m)(hv:aN bQ 3 (rem H G.gs) v (aK f L.w))(hf:∀j,j<L.w→aM (f j)≤N)(Lf:∀j,j<L.w→aM (T.c j)≤N)(hN:(N:Int)≤274877906944)(hw:(L.w:Int)≤1000000)(hm:(m:Int)≤1000000):
 Fn Tryz.prog 88 #[.pointer (some ⟨G.g,0,none⟩),v] H (DX cg 3 G.gs H (aK (fun i=>L.sF i*(f (L.uF i)-T.c (L.uF i))) m)):=by
 obtain⟨Av,cv,xv,rfl,lg,po⟩:=hv.num
 rw[bh]
 have GM:=h.self
 obtain⟨Au,cu,xu,GR,hru,hxu⟩:=GM.kf.one
 obtain⟨As,cs,xs5,wH,yL,vo⟩:=GM.jR.num
 rw[hL.PE]at GR
 rw[hL.PF]at wH
 obtain⟨l,hl⟩:∃l,l=(fun i=>L.sF i*(f (L.uF i)-T.c (L.uF i))):=⟨_,rfl⟩
 have DW:∀i,i<m→aM (l i)≤2*N+2:=fun i hi=>by
  have h1:=hf _ (hL.uw i hi)
  have h2:=Lf _ (hL.uw i hi)
  have h3:=hL.s1 i hi
  have h4:=so (f (L.uF i)) (T.c (L.uF i))
  have h5:=sk (L.sF i) (f (L.uF i)-T.c (L.uF i))
  rw[hl];show aM (L.sF i*(f (L.uF i)-T.c (L.uF i)))≤_
  omega
 have cM:cell H ((⟨G.g,0,none⟩:Addr).add 4)=some (.slice Au m cu):=by rw[←GR];exact h.cell rfl
 obtain⟨gc,cc,DS,bo,By⟩:=id hc
 have kI:gc∈G.gs:=TG.zc (by rw[DS];exact List.mem_singleton.2 rfl);refine aY (args:=[_,_]) Tryz.func88 rfl rfl Tryz.ntmps88 rfl rfl fun w0=> ?_;refine ah [0,1] rfl ?_;refine ae (aa 1 rfl (ab [0,1] ?_));refine ae (aa 2 rfl (aV ag rfl rfl rfl (aR ag rfl rfl rfl (cM) (aa 1 rfl (gO Tryz.underlying117 fh rfl rfl rfl (by omega) (by omega) (by omega) (by omega) ?_)))));intro z jh;rw[show ((m:Int)).toNat=m from by omega];have kH:ft G.gs H _ z (cR [.int .i64 0,.int .i64 0,.pointer none] (m*3)) (m*3) 121:=ft.new h.ne jh
 have iE:bG (iw bQ (rem (ins H z ⟨cR [.int .i64 0,.int .i64 0,.pointer none] (m*3),m*3,121,true⟩) (z::G.gs))) 3 (cR [.int .i64 0,.int .i64 0,.pointer none] (m*3)) (fill (aK l m) 0):=by have:=Bs (P:=bQ) (H:=rem (ins H z ⟨cR [.int .i64 0,.int .i64 0,.pointer none] (m*3),m*3,121,true⟩) (z::G.gs)) (zs:=[.int .i64 0,.int .i64 0,.pointer none]) (sz:=3) (by rfl) (aK l m);rwa [bh]at this
 have gE:=kH.tab h;refine aa 1 rfl (ab [0,1,5] ?_);refine ao (ae (aa 2 rfl (aV ag rfl rfl rfl (aR ag rfl rfl rfl (show cell _ _=some (.slice Au m cu)from by rw[←GR];exact gE.cell 4 _ rfl) ?_))));refine aa 2 rfl (ab [0,1,5,17,18,19] ?_);refine aE (fX (fun(k:Nat)(xs:List Value)=>m-k) (fun(k:Nat)(xs:List Value)=>put (put (put (put (put (put (emp) 0 (.val (.pointer (some ⟨G.g,0,none⟩)))) 1 (.val (.slice Av L.w cv))) 5 (.val (.slice (some ⟨z,0,none⟩) m m))) 17 (.val (.slice Au m cu))) 18 (.val (.int .i64 (m:Int)))) 19 (.val (.int .i64 (k:Int)))) (fun(k:Nat)(xs:List Value) H'=>ft G.gs H H' z xs (m*3) 121∧bG (iw bQ (rem H' (z::G.gs))) 3 xs (fill (aK l m) k)∧k≤m) 0 _ (⟨kH,iE,Nat.zero_le _⟩) ar ?_);rintro k xs H2 ⟨eQ,lf,fP⟩;have kF:=m9 (l:=aK l m) (k:=k) (by rw[bh];exact fP);rw[bh]at kF;have cY:=lf.len;rw[kF]at cY;have jE:=eQ.tab h;have kY:=eQ.hle;refine ae (aa 1 rfl (ab [0,1,5,17,18,19,20] ?_));refine ao (aD rfl (fun hb=> ?_) (fun hb=> ?_))
 ·
  have gw:k<m:=by simpa using hb
  obtain⟨uu,huu,agH⟩:=hxu k _ (hL.u gw)
  cases agH
  have mG:=hL.uw k gw;obtain⟨n1,d1,b1,du,fK⟩:=po _ _ (dD mG);obtain⟨n2,d2,b2,ia,eT⟩:=vo k _ (hL.s gw);obtain⟨xc,n3,d3,b3,nP,jP,ic⟩:=(By.le eQ.le (eQ.same gc kI)).rd (dD (show L.uF k<L.w+1 by omega));have iZ:=hf _ mG;have yt:=Lf _ mG;have jN:=hL.s1 k gw;have DY:=(lg.le eQ.le).le (bF _ _);have agI:=(yL.le eQ.le).le (bF _ _);have agJ:=hru.le kY
  have dR:cell H2 ((⟨G.g,0,none⟩:Addr).add 5)=some (.slice As m cs):=by rw[←wH];exact jE.cell 5 _ rfl
  have jt:cell H2 ((⟨G.g,0,none⟩:Addr).add 7)=some (.slice (some ⟨gc,0,none⟩) (L.w+1) cc):=by rw[←bo];exact jE.cell 7 _ rfl
  refine aw (ah [0,1,5,17,18,19] rfl ?_);refine ao (aE (ae (aa 1 rfl (aS ag rfl rfl rfl rfl rfl (agJ) (by rw[Int.toNat_natCast];exact huu) (by omega) (by omega) fun _=> ?_))));refine aa 2 rfl (ab [0,1,5,6,7,17,18,19] ?_);refine eK .gD [0,1,2,3,4,5,6,7,8,9,10,11,12,13,14,15,16,17,18,19,20,21,22,23] follows (by kernel_rfl) ?_;refine aa 4 rfl (aV ag rfl rfl rfl (aR ag rfl rfl rfl (dR) (aa 1 rfl (bY (vs:=[.int .i64 n2,.int .i64 d2,.pointer b2]) ag rfl rfl rfl rfl agI rfl (by decide) (by rw[Int.toNat_natCast];exact eT) (by omega) (by omega) fun _=> ?_))));refine aa 2 rfl (bY (vs:=[.int .i64 n1,.int .i64 d1,.pointer b1]) ag rfl rfl rfl rfl DY rfl (by decide) (by rw[Int.toNat_natCast];exact fK) (by omega) (by omega) fun _=> ?_);refine aa 2 rfl (aV ag rfl rfl rfl (aR ag rfl rfl rfl (jt) (aa 1 rfl (bY (vs:=[.int .i64 n3,.int .i64 d3,.pointer b3]) ag rfl rfl rfl rfl nP rfl (by decide) (by rw[Int.toNat_natCast];exact ic) (by omega) (by omega) fun _=> ?_))));refine aW rfl rfl (Fn.lD (eQ.ne h.ne) (DI (N:=N) (du.le eQ.le) jP iZ yt (by omega))) (fun _ _ h=>by first | exact h.le | exact h.1) ?_
  rintro v4 H4 ⟨gy,amV,n4,d4,b4,rfl,cn⟩;have sH:=eQ.kept gy;have zf:=so (f (L.uF k)) (T.c (L.uF k));refine aW rfl rfl (Fn.lD (sH.ne h.ne) (Gs (N:=2*N+2) (ia.le sH.le) cn (by omega) (by omega) (by omega))) (fun _ _ h=>by first | exact h.le | exact h.1) ?_;rintro v5 H5 ⟨mC,amW,n5,d5,b5,rfl,eI⟩;have sK:=sH.kept mC;obtain⟨ti,aj,ak⟩:=cL;refine cT (.inr rfl) ag rfl rfl rfl (by omega) (by omega) (sK.aC) rfl (by show 0+m*3≤xs.length;omega) aj ak (fun _=>rfl) rfl rfl rfl fun _=> ?_;refine au (ah [0,1,5,17,18,19] rfl ?_);refine aA rfl (aF rfl rfl ⟨by omega,by omega⟩ (aa 1 rfl (au ?_)));exact⟨k+1,aL xs (k*3) [.int .i64 n5,.int .i64 d5,.pointer b5],by omega,ar,sK.set oW,by rw[cJ _ (List.mem_cons_self ..),←y7 (a:=L.sF k*(f (L.uF k)-T.c (L.uF k))) (by rw[dD gw,hl])];exact PG (lf.mono fun vs a=>iw.up jg _ _ vs a (gy.le.trans mC.le)) (by rw[kF];exact gw) eI,by omega⟩
 ·
  have hb:m≤k:=by simpa using hb
  obtain rfl:k=m:=by omega
  have l5:=eQ.done;refine aU (ah [5] rfl ?_);refine ae (vr 1 ?_)
  refine aB rfl rfl (Fn.Lb (l5.1.ne h.ne) (WE (l:=aK l k) ⟨some ⟨z,0,none⟩,k,xs,by rw[bh],by rw[bh];exact Nat.le_refl _,eQ.rd,(Xm lf).mono fun vs a=>jg _ _ vs a l5.2⟩ (fun q hq=>by
  obtain⟨j,hj,rfl⟩:=List.mem_map.1 hq;have:=DW j (List.mem_range.1 hj)
  omega) (by rw[bh];omega))) ?_
  rintro v9 H9 ⟨gG,ea,sI⟩;refine aa 1 rfl (ab [4] ?_);refine az ⟨.inr rfl,_,.tmp rfl (.nil),?_⟩;exact⟨l5.1.trans gG,eQ.hle.trans ea,by rw[←hl];exact sI⟩
end Go.aq
namespace Go.aq
open Go.Proofs Num Lp
def gU(T:av)(f:Nat→Rat)(k j:Nat):Rat:=(if j=T.n then 0 else f j)-aZ k (fun i=>f (T.B i)*T.A i j)
theorem agK(T:av)(f:Nat→Rat)(k j:Nat):gU T f (k+1) j=gU T f k j-f (T.B k)*T.A k j:=by
 unfold gU;rw[gn];grind
theorem xA(f:Nat→Rat)(n:Nat):aK f (n+1)=aK f n ++ [f n]:=by
 unfold aK;rw[List.range_succ,List.map_append];rfl
theorem agL(f:Nat→Rat)(n:Nat):aK f n ++ [0]=aK (fun j=>if j=n then 0 else f j) (n+1):=by
 rw[xA,la (f:=fun j=>if j=n then 0 else f j) (g:=f) (fun j hj=>by show (if j=n then 0 else f j)=f j;rw[if_neg (by omega)]),if_pos rfl]
theorem agM{α:Type}{P:List Value→α→Prop}{sz:Nat}{xs:List Value}{l:List α}(h:bG P sz xs l)(hp:0<sz∧∀vs a,P vs a→∀u,u∈vs→u.oneCell'=true):∀u,u∈xs→u.oneCell'=true:=fun u hu=>by
 obtain⟨i,hi⟩:=List.getElem?_of_mem hu
 have bP:=(List.getElem?_eq_some_iff.1 hi).1
 rw[h.len]at bP
 have he:i/sz<l.length:=Nat.div_lt_of_lt_mul (by rw[Nat.mul_comm];exact bP)
 have hq:=h.at_ (i/sz) _ (List.getElem?_eq_getElem he)
 refine hp.2 _ _ hq u ?_
 have:(gj xs (i/sz) sz)[i%sz]? = some u:=by
  unfold gj
  rw[List.getElem?_take,if_pos (Nat.mod_lt _ hp.1),List.getElem?_drop,Nat.div_add_mod'];exact hi
 exact List.mem_of_getElem? this
theorem agN{K:Heap}:0<3∧∀vs a,bQ K vs a→∀u,u∈vs→u.oneCell'=true:=⟨by decide,fun vs a h u hu=>by
 obtain⟨n,d,b,rfl⟩:=h.cells
 simp only[List.mem_cons,List.not_mem_nil,or_false]at hu
 rcases hu with rfl | rfl | rfl <;> rfl⟩
def TG.eU(G:TG)(v:Value)(gc:Nat):TG:={G with cv:=v,cb:=[gc]}
theorem dF.agO{H:Heap}{G:TG}{L:TL}{T:av}(h:dF H G L T){H3:Heap}{v:Value}{gc:Nat}{e:Ent}(kI:H gc=none)(hle:Heap.le (rem H G.gs) (rem (ins H3 G.g e) (G.eU v gc).gs))(hs:∀q,q∈G.gs→H3 q=H q)(h3:H3 gc≠none)(he:e=⟨(G.eU v gc).cells L.w L.u T.m,9,127,true⟩):
  dF (ins H3 G.g e) (G.eU v gc) L T:=by
 have bA:∀q,q∈G.gs→q≠gc:=fun q hq e=>h.ne q hq (by rw[e];exact kI)
 have Gu:G.g≠gc:=bA _ G.sC
 have qD:∀q,q∈G.gs→q≠G.g→ins H3 G.g e q=H q:=fun q hq hn=>by rw[bn _ _ hn];exact hs q hq
 refine⟨h.n,h.uw,by show ins H3 G.g e G.g=_;rw[bC,he],?_,h.iC,?_,fun i p hp=> ?_,?_,h.plus.le mD hle,h.minus.le lb hle,h.kf.le mD hle,h.jR.le jg hle,fun q hq=> ?_⟩
 ·have dW:=h.nd
  unfold TG.gs at dW⊢
  show (G.g::([gc]++(G.bb++G.rg.map (·.1)))).Nodup
  rw[List.nodup_cons,List.nodup_append]at dW
  have lx:∀q,q∈G.bb++G.rg.map (·.1)→q∈G.gs:=fun q hq=>List.mem_cons_of_mem _ (List.mem_append_right _ hq)
  rw[List.nodup_cons,List.nodup_append]
  refine⟨fun hm=> ?_,(by simp),dW.2.2.1,fun a ha b hb=> ?_⟩
  ·rcases List.mem_append.1 hm with hm | hm
   ·exact Gu (List.mem_singleton.1 hm)
   ·exact dW.1 (List.mem_append_right _ hm)
  ·rw[List.mem_singleton]at ha
   rw[ha];exact fun e=>bA b (lx b hb) e.symm
 ·obtain⟨xs,h1,h2⟩:=h.rows
  exact⟨xs,h1.le hle,h2⟩
 ·have yA:G.rg[i]? = some p:=hp
  exact(h.row i p yA).le hle (qD _ (TG.gS yA) (fun e=>TG.Bu h.nd (.inr (.inr ⟨i,p,yA,rfl⟩)) e.symm))
 ·rcases h.basis with h1 | ⟨gb,cb,sz,h1,h2,h4⟩
  ·exact .inl h1
  ·have hm:gb∈G.bb:=by rw[h1];exact List.mem_singleton.2 rfl
   exact .inr ⟨gb,cb,sz,h1,h2,by rw[qD _ (TG.mE hm) (fun e=>TG.Bu h.nd (.inr (.inl hm)) e.symm)];exact h4⟩
 ·have:q=gc:=List.mem_singleton.1 hq
  rw[this,bn _ _ (Ne.symm Gu)];exact h3
theorem TG.agP{G:TG}{v:Value}{gc q:Nat}(h:q∈(G.eU v gc).gs):q=gc∨q∈G.gs:=by
 unfold TG.gs at h
 rcases List.mem_cons.1 h with h | h
 ·exact .inr (by rw[h];exact G.sC)
 ·rcases List.mem_append.1 h with h | h
  ·exact .inl (List.mem_singleton.1 h)
  ·exact .inr (List.mem_cons_of_mem _ (List.mem_append_right _ h))
theorem agQ{H H3:Heap}{G:TG}{v:Value}{gc:Nat}{e:Ent}(kI:H gc=none)(hle:Heap.le (rem H G.gs) (rem H3 G.gs)):Heap.le (rem H G.gs) (rem (ins H3 G.g e) (G.eU v gc).gs):=fun q en hq=>by
 have hm:¬q∈G.gs:=fun hm=>by rw[rem_in hm]at hq;cases hq
 have GS:q≠gc:=fun e=>by rw[bM hm,e,kI]at hq;cases hq
 obtain⟨e',h1,h2⟩:=hle q en hq
 refine⟨e',?_,h2⟩
 rw[bM (fun h=>by rcases TG.agP h with h | h;exact GS h;exact hm h),bn _ _ (fun e=>hm (by rw[e];exact G.sC))]
 rwa [bM hm]at h1
theorem Xs{H:Heap}{G:TG}{L:TL}{T:av}{N:Nat}{v:Value}{f:Nat→Rat}(h:dF H G L T)(hv:aN bQ 3 (rem H G.gs) v (aK f L.w))(hB:∀i,i<T.m→T.B i<L.w)(hN:(N:Int)≤549755813888)(hw:(L.w:Int)≤1000000)(hm:(T.m:Int)≤1000000)
 (hf:∀j,j<L.w→aM (f j)≤N) (hA:∀i,i<T.m→∀j,j≤L.w→aM (T.A i j)≤N) (hp:∀k,k≤T.m→∀j,j≤L.w→aM (gU T f k j)≤N):
 Fn Tryz.prog 83 #[.pointer (some ⟨G.g,0,none⟩),v] H (fun _ H'=>∃cv gc,H gc=none∧dF H' (G.eU cv gc) L {T with c:=gU T f T.m}∧iR H' (G.eU cv gc) L {T with c:=gU T f T.m}∧Heap.le (rem H G.gs) (rem H' (G.eU cv gc).gs)):=by
 obtain⟨Av,cv0,xv,rfl,agR,lg,Lg⟩:=hv
 rw[bh]at agR
 rw[bh]
 have Xt:=Lg.len
 rw[bh]at Xt
 have Pz:=h.n;refine aY (args:=[_,_]) Tryz.func83 rfl rfl Tryz.ntmps83 rfl rfl fun w0=> ?_;refine ah [0,1] rfl ?_;refine ae (aa 2 rfl (eD Tryz.underlying117 fh rfl rfl (lv _ 121 3) (lg.le (bF _ _)) (Xt) (agM Lg agN) (by omega) (by omega) ?_));intro v1 H1 D4;rw[List.nil_append,Nat.zero_add]at D4;obtain⟨dU,qy⟩:=D4.rem (gs:=G.gs) h.ne (fun q _ e=>by cases e);have amX:=dU.own;refine aB rfl rfl (wZ) ?_;rintro v2 H2 ⟨e2,rfl⟩;rw[e2];refine cS Tryz.underlying117 fh rfl rfl rfl rfl rfl rfl rfl ?_;intro gz GV;have PH:¬gz∈G.gs:=fun hm=>h.ne gz hm (by rw[←qy gz hm];exact GV)
 have mY:∀q,q∈G.gs→ins H1 gz (whole (ee [N3 0 1 none]) 121) q=H q:=fun q hq=>by rw[bn _ _ (fun e=>PH (by rw[←e];exact hq))];exact qy q hq
 refine eD Tryz.underlying117 fh rfl rfl (D4.own.ins _ GV) (eN _ _ _ _ _ _) (rfl) (by decide) (by omega) (by omega) ?_;intro v3 H3 PI
 obtain⟨fZ,BC⟩:=PI.rem (gs:=G.gs) (fun q hq=>by rw[mY q hq];exact h.ne q hq) (fun q hq e=>by
  rcases D4.at_ with h9 | ⟨g9,h9,gN⟩
  ·rw[h9]at e;cases e
  ·rw[h9]at e;cases e;exact h.ne _ hq gN)
 obtain⟨gc,cc,rfl,Xu,Lh⟩:∃gc cc,v3 = .slice (some ⟨gc,0,none⟩) (L.w+1) cc∧H3 gc=some ⟨xv++ee [N3 0 1 none],cc*3,121,true⟩∧H gc=none:=by
  rcases PI.own.2 with h9 | ⟨g9,c9,h9,gN,_⟩
  ·omega
  ·
   refine⟨g9,c9,h9,gN,?_⟩
   rcases PI.at_ with ik | ⟨g11,ik,AH⟩
   ·
    rw[h9]at ik
    rcases D4.at_ with nR | ⟨g13,nR,D5⟩
    ·rw[nR]at ik;cases ik
    ·rw[nR]at ik;cases ik;exact D5
   rw[h9]at ik
   cases ik
   have zh:=(AT AH).2
   cases hh:H g9 with
   | none=>rfl
   | some en=>(obtain⟨e',Xv,_⟩:=D4.le g9 en hh;rw[zh]at Xv;cases Xv)
 have Xw:∀q,q∈G.gs→H3 q=H q:=fun q hq=>(BC q hq).trans (mY q hq);have iA:Heap.le (rem H G.gs) (rem H3 G.gs):=(dU.le.trans (by rw[wW _ PH];exact Heap.bI _ (by rw[bM PH];exact GV))).trans fZ.le
 have Xx:H3 G.g=some ⟨G.cells L.w L.u T.m,9,127,true⟩:=by rw[Xw _ G.sC];exact h.st
 refine aa 1 rfl (aV ag rfl rfl rfl ?_);obtain⟨ti,aj,ak⟩:=FP;refine j9 (g:=G.g) (o:=7) (.inl rfl) rfl Xx rfl (by show 7+1≤9;omega) aj ak rfl rfl rfl rfl ?_;have kC:=agQ (v:= .slice (some ⟨gc,0,none⟩) (L.w+1) cc) (e:={(⟨G.cells L.w L.u T.m,9,127,true⟩:Ent)with xs:=aL (G.cells L.w L.u T.m) 7 [.slice (some ⟨gc,0,none⟩) (L.w+1) cc]}) Lh iA;have h4:=h.agO (v:= .slice (some ⟨gc,0,none⟩) (L.w+1) cc) Lh kC Xw (by rw[Xu];simp) rfl;have Gu:gc≠G.g:=fun e=>h.ne _ G.sC (by rw[←e];exact Lh)
 have Xy:ins H3 G.g {(⟨G.cells L.w L.u T.m,9,127,true⟩:Ent)with xs:=aL (G.cells L.w L.u T.m) 7 [.slice (some ⟨gc,0,none⟩) (L.w+1) cc]} gc=some ⟨xv++ee [N3 0 1 none],cc*3,121,true⟩:=by rw[bn _ _ Gu];exact Xu
 generalize ins H3 G.g {(⟨G.cells L.w L.u T.m,9,127,true⟩:Ent)with xs:=aL (G.cells L.w L.u T.m) 7 [.slice (some ⟨gc,0,none⟩) (L.w+1) cc]}=H4 at kC h4 Xy
 refine ab [0,1] ?_
 have Xz:bG (bQ (rem H4 (G.eU (.slice (some ⟨gc,0,none⟩) (L.w+1) cc) gc).gs)) 3 (xv++ee [N3 0 1 none]) (aK (gU T f 0) (L.w+1)):=by
  rw[la (f:=gU T f 0) (g:=fun j=>if j=L.w then 0 else f j) (fun j _=>by unfold gU;rw[DD,Pz];grind),←agL];exact(Lg.mono fun vs a=>jg _ _ vs a kC).append (jq (wY _ (n:=0) (by decide) (by decide)) rfl)
 obtain⟨G',vK⟩:∃G',G'=G.eU (.slice (some ⟨gc,0,none⟩) (L.w+1) cc) gc:=⟨_,rfl⟩;rw[←vK]at kC h4 Xz
 have BD:G'.g=G.g:=by rw[vK];rfl
 have mq:iR H4 G' L {T with c:=gU T f 0}:=⟨gc,cc,by rw[vK];rfl,by rw[vK];rfl,_,_,Xy,Xz⟩;have h4':dF H4 G' L {T with c:=gU T f 0}:=h4.congr rfl rfl (fun _ _ _ _=>rfl) (fun _ _=>rfl);obtain⟨Ab,cb,dy,_⟩:=h4.self.bv
 have gA:cell H4 ((⟨G.g,0,none⟩:Addr).add 8)=some (.slice Ab T.m cb):=by rw[←dy,←BD];exact h4.cell rfl
 refine ae (aa 2 rfl (aV ag rfl rfl rfl (aR ag rfl rfl rfl (gA) (aa 2 rfl (ab [0,1,17,18,19] ?_)))));refine aE (fI (fun(k:Nat)=>T.m-k) (fun(k:Nat)=>put (put (put (put (put (emp) 0 (.val (.pointer (some ⟨G.g,0,none⟩)))) 1 (.val (.slice Av L.w cv0))) 17 (.val (.slice Ab T.m cb))) 18 (.val (.int .i64 (T.m:Int)))) 19 (.val (.int .i64 (k:Int)))) (fun(k:Nat) H'=>dF H' G' L {T with c:=gU T f k}∧iR H' G' L {T with c:=gU T f k}∧Heap.le (rem H G.gs) (rem H' G'.gs)∧k≤T.m) 0 (⟨h4',mq,kC,Nat.zero_le _⟩) ar ?_);rintro k H5 ⟨h5,l4,iP,mC⟩;obtain⟨A2,c2,GL,F8⟩:=h5.self.bv;rw[dy]at GL
 obtain⟨rfl,-,rfl⟩:Ab=A2∧T.m=T.m∧cb=c2:=by simpa using GL
 refine ae (aa 1 rfl (ab [0,1,17,18,19,20] ?_));refine ao (aD rfl (fun hb=> ?_) (fun hb=> ?_))
 ·
  have fV:k<T.m:=by simpa using hb
  have XA:=hB k fV;obtain⟨pk,qH⟩:=h5.get (i:=k) fV;obtain⟨vs0,_,jo,mo⟩:=Lg.get (dD XA);obtain⟨n1,d1,b1,rfl⟩:=jo.cells;obtain⟨gc',cc',amY,amZ,am0⟩:=id l4
  have jt:cell H5 ((⟨G.g,0,none⟩:Addr).add 7)=some G'.cv:=by rw[←BD];exact h5.cell rfl
  refine aw (ah [0,1,17,18,19] rfl ?_);refine ao (aE (ae (aa 1 rfl (aS ag rfl rfl rfl rfl rfl (F8) (by rw[Int.toNat_natCast];exact gQ (B:=T.B) fV) (by omega) (by omega) fun _=> ?_))));refine aa 2 rfl (ab [0,1,4,5,17,18,19] ?_);refine eK .vf [0,1,2,3,4,5,6,7,8,9,10] follows (by kernel_rfl) ?_;refine aa 3 rfl (aV ag rfl rfl rfl (aR ag rfl rfl rfl (jt) (aa 3 rfl (bY (vs:=[.int .i64 n1,.int .i64 d1,.pointer b1]) ag rfl rfl rfl rfl ((lg.le iP).le (bF _ _)) rfl (by decide) (by rw[Int.toNat_natCast];exact mo) (by omega) (by omega) fun _=> ?_))));refine VS rfl rfl (by rw[←BD];exact WS (N:=N) h5 l4 qH (jo.le iP) hN hw (hf _ XA) (fun j hj=>hp k (by omega) j hj) (fun j hj=>hA k fV j hj)) ?_;rintro v6 H6 ⟨h6,pT,sD⟩;refine au (ah [0,1,17,18,19] rfl ?_);refine aA rfl (aF rfl rfl ⟨by omega,by omega⟩ (aa 1 rfl (au ?_)));exact⟨k+1,by omega,ar,h6.congr rfl rfl (fun _ _ _ _=>rfl) (fun _ _=>rfl),pT.congr (fun j _=>agK T f k j),iP.trans sD,by omega⟩
 ·
  have hb:T.m≤k:=by simpa using hb
  obtain rfl:k=T.m:=by omega
  refine aU ?_;refine⟨.inl rfl,_,.nil,?_⟩;exact⟨_,gc,Lh,by rw[←vK];exact h5,by rw[←vK];exact l4,by rw[←vK];exact iP⟩
end Go.aq
namespace Go.aq
open Go
section
variable {P:Program} {n:Nat} {tb:Tb} {all:Array Oper} {s:St} {H:Heap} {md:Mode} {K:St→Heap→Prop} {r:List Oper} {dst:Option Nat} {ty:TypeId} {pos:String} {after:Array Edge} {gd:Option (Nat×Bool)} {kc:Addr→Option Value}
theorem D6{op:Op}(v:Value)(hm:rI op=false)(hc:(Mode.cO kc).fO H)(hg:cC all s gd=some true)(nb:jl s dst=true)
  (h:∀a w,gK n s a→(∀ad u,kc ad=some u→w.cell? ad=some u)→(execOp a.eval ⟨dst,op,ty,pos,after,gd⟩).run P w = .ok (.value v) w) (k:aT P n all (.cO kc) r (bD s dst (.val v)) H K):aT P n all (.cO kc) (⟨dst,op,ty,pos,after,gd⟩::r) s H K:=
 .mf v rfl hm nb hc (fun a w ha hd=> .inl ⟨jM ha (lr (o:=⟨dst,op,ty,pos,after,gd⟩) hg),h a w ha hd⟩) k
theorem eR{x:Operand}{v:Value}(hc:(Mode.cO kc).fO H)(hx:ev s x=some v)(hk:aT P n all (.cO kc) r (bD s dst (.val v)) H K)(hg:cC all s gd=some true:=by rfl)(nb:jl s dst=true:=by rfl):aT P n all (.cO kc) (⟨dst,.move x,ty,pos,after,gd⟩::r) s H K:=
 D6 v rfl hc hg nb (fun a w ha _=>by simp[execOp,bR ha hx]) hk
theorem l6{x:Operand}{ad:Addr}(hc:(Mode.cO kc).fO H)(hx:ev s x=some (.pointer (some ad)))(hk:aT P n all (.cO kc) r (bD s dst (.val (.pointer (some ad)))) H K)(hg:cC all s gd=some true:=by rfl)(nb:jl s dst=true:=by rfl):aT P n all (.cO kc) (⟨dst,.nilCheck x,ty,pos,after,gd⟩::r) s H K:=
 D6 _ rfl hc hg nb (fun a w ha _=>by simp[execOp,bR ha hx]) hk
theorem l7{t:TypeId}{x:Operand}{f:Nat}{ad:Addr}{m o z:Nat}{ps:List (Nat×Nat)}(hc:(Mode.cO kc).fO H)(dI:j0 P tb)(ht:tb[t]? = some (.st m ps))(hf:ps[f]? = some (o,z))(hx:ev s x=some (.pointer (some ad)))
  (hk:aT P n all (.cO kc) r (bD s dst (.val (.pointer (some (ad.add o))))) H K) (hg:cC all s gd=some true:=by rfl) (nb:jl s dst=true:=by rfl):aT P n all (.cO kc) (⟨dst,.fieldAddr t x f,ty,pos,after,gd⟩::r) s H K:=
 D6 _ rfl hc hg nb (fun a w ha _=>by
  obtain⟨fs,ii,hu,h2,h3,_,h4⟩:=dI t _ ht
  obtain⟨fd,jj,h5,h6,h7,h9,gN⟩:=h4 f _ hf
  have h8:jj.size≠0:=by rw[h9];exact gN
  simp only at h6
  simp[execOp,bR ha hx,Instr.fieldAt,run_underlying hu,h5,Instr.sureAddr,JU h7 h8,h6]) hk
theorem jS{t:TypeId}{x:Operand}{ad:Addr}{ti:Ti}{v:Value}(hc:(Mode.cO kc).fO H)(dI:j0 P tb)(ht:tb[t]? = some ti)(h1:yq ti=true)(hx:ev s x=some (.pointer (some ad)))(hv:kc ad=some v)
  (hk:aT P n all (.cO kc) r (bD s dst (.val v)) H K) (hg:cC all s gd=some true:=by rfl) (nb:jl s dst=true:=by rfl):aT P n all (.cO kc) (⟨dst,.load t x,ty,pos,after,gd⟩::r) s H K:=
 D6 _ rfl hc hg nb (fun a w ha hd=>by simp[execOp,bR ha hx,Instr.loadAt,Instr.sureAddr,NV (dI t _ ht) h1 (hd ad v hv)]) hk
theorem D7{f:Operand}{iO:FuncId}{cap args:List Value}{xs:List Operand}{ts:Array TypeId}{bE:Value→Heap→Prop}(hf:ev s f=some (.func (.func iO) #[] cap.toArray))(hx:qn s xs=some args)
  (h:Fn P iO (args++cap).toArray H bE) (hm:∀v H',bE v H'→(Mode.cO kc).fO H') (hk:∀v H',bE v H'→aT P n all (.cO kc) r (bD s dst (.val v)) H' K) (hg:cC all s gd=some true:=by rfl) (nb:jl s dst=true:=by rfl):aT P n all (.cO kc) (⟨dst,.call ⟨.value f,xs.toArray,ts⟩,ty,pos,after,gd⟩::r) s H K:=
 .mR bE rfl (.inl FC) nb (FB (cap:=cap) hf hx hg h) (.inr hm) fun v H' hp _=>hk v H' hp
theorem D8{t e bytes:Nat}{x:Operand}{z v:Value}(ht:P.underlying t=some (.slice e))(he:fH P e 1 z bytes)(hx:ev s x=some v)(hv:v.cells = #[v])
  (hk:∀g,H g=none→aT P n all (.cO kc) r (bD s dst (.val (.slice (some ⟨g,0,none⟩) 1 1))) (ins H g (whole [v] e)) K) (hg:cC all s gd=some true:=by rfl) (nb:jl s dst=true:=by rfl):
  aT P n all (.cO kc) (⟨dst,.buildSlice t 1 #[(0,x)],ty,pos,after,gd⟩::r) s H K:=
 .oh (fun g=> .slice (some ⟨g,0,none⟩) 1 1) [v] e rfl rfl nb (fun a w ha=>by
  refine⟨jM ha (lr (o:=⟨dst,.buildSlice t 1 #[(0,x)],ty,pos,after,gd⟩) hg),?_⟩
  obtain⟨i,hi,hz,cP,_,qo,_⟩:=he
  have mh:v.cells.size=1:=by rw[hv];rfl
  have AG:Instr.fill (fun k=>some (k*i.size,i.size)) (madeCells z.cells (1*i.size)) [(0,v)]=some #[v]:=by
   have h1:=UY (sz:=1) [v] 0 [] (madeCells z.cells 1).toList (fun u hu=>by rw[List.mem_singleton]at hu;rw[hu];exact mh) rfl (by simp[size_madeCells])
   simp only[List.nil_append,Array.toArray_toList,List.length_singleton]at h1
   have e1:ee [v] = [v]:=by simp[ee,hv]
   rw[e1]at h1
   rw[cP]
   simpa [List.range']using h1
  have:=UZ (P:=P) (w:=w) (t:=t) (e:=e) (len:=1) (i:=i) (z:=z) (parts:= #[(0,v)]) (cells:= #[v]) ht hi hz (by rw[cP];decide) (by rw[cP];decide) AG
  simp only[execOp,List.map_toArray,List.map_cons,List.map_nil,bR ha hx,Sem.run_bind,this,Result.andThen_ok,Sem.run_pure]) fun g hg _=>hk g hg
theorem D9{t e sz bytes:Nat}{x y:Operand}{z v:Value}{m k c:Nat}{A:Option Addr}{xs news:List Value}(ht:P.underlying t=some (.slice e))(he:fH P e sz z bytes)(hx:ev s x=some v)(hy:ev s y=some (.slice A k c))(ho:bW H v e sz m xs)
  (hr:Rd H A news) (hl:news.length=k*sz) (h1:∀u∈news,u.oneCell'=true) (hb:(m+k)*bytes≤140737488355328) (pD:m+k≤9223372036854775807) (hc:(Mode.cO kc).fO H)
  (hk:∀v' H',App H v e sz (m+k) (xs++news) v' H'→aT P n all (.cO kc) r (bD s dst (.val v')) H' K) (hg:cC all s gd=some true:=by rfl) (nb:jl s dst=true:=by rfl):aT P n all (.cO kc) (⟨dst,.call ⟨.builtin .append,#[x,y],#[t,t]⟩,ty,pos,after,gd⟩::r) s H K:=
 .mR (fun v' H'=>App H v e sz (m+k) (xs++news) v' H') rfl (.inl (by simp[kd,JF])) nb (fun a w ha hd=>by
  refine⟨jM ha (lr (o:=⟨dst,.call ⟨.builtin .append,#[x,y],#[t,t]⟩,ty,pos,after,gd⟩) hg),?_⟩
  obtain⟨v',w',H',h2,h3,h4,h5⟩:=UU (P:=P) (c:=c) hd ht he ho hr hl h1 hb pD ty
  have hex:(execOp a.eval ⟨dst,.call ⟨.builtin .append,#[x,y],#[t,t]⟩,ty,pos,after,gd⟩).run P w = .ok (.value v') w':=by
   simp[execOp,resolve,invoke,builtin,bR ha hx,bR ha hy,h2]
  unfold lQ
  rw[hex]
  exact⟨H',h3,h4,h5⟩) (.inr fun v' H' ha ad u hu=>cF ha.le (hc ad u hu)) fun v' H' ha _=>hk v' H' ha
theorem agS{t:TypeId}{x y:Operand}{g o sz:Nat}{ent:Ent}{v:Value}{vs:List Value}{ii:TypeInfo}(hx:ev s x=some (.pointer (some ⟨g,o,none⟩)))(hg:H g=some ent)(cG:ent.own=true)(lx:o+sz≤ent.xs.length)
  (wD:P.info? t=some ii) (cP:ii.size=sz) (hy:ev s y=some v) (hv:v.cells=vs.toArray) (il:vs.length=sz) (h1:vs.all yy=true) (rQ:cC all s gd=some true):
  EV P n all ⟨none,.store t x y,ty,pos,after,gd⟩ s H (fun _ H'=>H'=ins H g {ent with xs:=aL ent.xs o vs}):=fun a w ha hd=>by
 refine⟨jM ha (lr (o:=⟨none,.store t x y,ty,pos,after,gd⟩) rQ),?_⟩
 obtain⟨ob,h2,cur,fz,rfl,h3,h4,h5⟩:=hd g ent hg
 have pC:=h5 cG
 subst pC
 have FJ:cur=cur.toList.toArray:=by simp
 have hlen:ent.xs.length≤cur.toList.length:=by
  rcases Nat.eq_zero_or_pos ent.xs.length with h | h
  ·omega
  ·have hx:=h4 (ent.xs.length-1) _ (List.getElem?_eq_getElem (by omega))
   have:=(Array.getElem?_eq_some_iff.1 hx).1
   simp;omega
 rw[FJ]at h2
 obtain⟨w',h6,h7,h8,h9,gN,ik,AH⟩:=JZ (P:=P) vs cur.toList w o 0 h2 (fun u hu=>List.all_eq_true.1 h1 u hu) (by omega)
 have hex:(execOp a.eval ⟨none,.store t x y,ty,pos,after,gd⟩).run P w = .ok .skip w':=by
  simp[execOp,bR ha hx,bR ha hy,Instr.storeAt,Instr.sureAddr,storeVar,sizeOf,typeInfo,wD,cP,hv,il,h6]
 unfold lQ
 rw[hex]
 refine⟨_,rfl,CY (o:= .cells (aL cur.toList (o+0) vs).toArray ent.elem (0,0)) hd h7 h8 h9 (by omega) (fun q _ hq=>ik q hq) AH ⟨_,(0,0),rfl,?_,?_,fun _=>rfl⟩ (.inl ⟨_,hg,cG,cG,rfl,rfl⟩)⟩
 ·simp[Fz,h3]
 ·intro q u hq
  have:=VT vs ent.xs cur.toList o (fun i w hw=>by have:=h4 i w hw;simpa using this) (by omega) q u hq
  simpa using this
theorem BE{t:TypeId}{x y:Operand}{g o sz:Nat}{ent:Ent}{v:Value}{vs:List Value}{ii:TypeInfo}(hx:ev s x=some (.pointer (some ⟨g,o,none⟩)))(hg:H g=some ent)(cG:ent.own=true)(lx:o+sz≤ent.xs.length)
  (wD:P.info? t=some ii) (cP:ii.size=sz) (hy:ev s y=some v) (hv:v.cells=vs.toArray) (il:vs.length=sz) (h1:vs.all yy=true)
  (hk:aT P n all (.cO kc) r s (ins H g {ent with xs:=aL ent.xs o vs}) K) (rQ:cC all s gd=some true:=by rfl):aT P n all (.cO kc) (⟨none,.store t x y,ty,pos,after,gd⟩::r) s H K:=
 .mR _ rfl (.inr rfl) rfl (agS hx hg cG lx wD cP hy hv il h1 rQ) (.inl rfl) fun _ H' hH _=>by rw[hH];exact hk
theorem Li{f:FuncId}{xs:List Operand}{cap:List Value}(hx:qn s xs=some cap)(hk:aT P n all md r (bD s dst (.val (.func (.func f) #[] cap.toArray))) H K)(hg:cC all s gd=some true:=by rfl)(nb:md.nb s dst=true:=by rfl):
  aT P n all md (⟨dst,.makeFunc (.func f) #[] xs.toArray,ty,pos,after,gd⟩::r) s H K:=
 ja _ rfl hg nb (fun a w ha _=>by simp[execOp,NX ha xs cap hx,Instr.makeFunc]) hk
end
end Go.aq
namespace Go.aq
open Go.Proofs Num Lp
def jT(L:TL)(a:Nat→Rat)(sg:Rat):Nat→Nat→Rat
 | 0=>fun _=>0
 | k+1=>if 0≤L.mZ k then bT (bT (jT L a sg k) (L.pF k) (a k*sg)) (L.mZ k).toNat (-(a k*sg))else bT (jT L a sg k) (L.pF k) (a k*sg)
def sL(f:Nat→Rat)(rel slack:Int)(sg:Rat):Nat→Rat:=if rel=1 then bT f slack.toNat sg else if rel=3 then bT f slack.toNat (-sg)else f
def Lj(L:TL)(n:Nat)(a:Nat→Rat)(b:Rat)(rel slack:Int)(unit:Nat)(sg:Rat):Nat→Rat:=
 bT (bT (sL (jT L a sg n) rel slack sg) unit 1) L.w (b*sg)
def gB(N:Nat)(H:Heap)(vs:List Value)(r:List Rat×Int×Rat):Prop:=
 ∃c f u w,vs = [c,.int .i64 r.2.1,.bool f,u,w]∧aN (dA N) 3 H c r.1∧cW H (.agg #[.bool f,u,w]) r.2.2 N
theorem lF(N:Nat):Up (gB N):=fun H H' vs r hl ⟨c,f,u,w,h1,h2,h3⟩=>⟨c,f,u,w,h1,h2.le (pS N) hl,h3.le hl⟩
theorem gB.cells{N:Nat}{H:Heap}{vs:List Value}{r:List Rat×Int×Rat}(h:gB N H vs r):∃A c k f A1 m1 c1 A2 m2 c2,vs = [.slice A k c,.int .i64 r.2.1,.bool f,.slice A1 m1 c1,.slice A2 m2 c2]∧k=r.1.length:=by
 obtain⟨c,f,u,w,h1,⟨A,cc,xs,rfl,_⟩,h3⟩:=h
 obtain⟨f',u',w',l1,l2,e,⟨A1,c1,rfl,_,_⟩,⟨A2,c2,rfl,_,_⟩,_⟩:=h3
 have:=DK (vs:=[.bool f,u,w]) e
 simp only[List.cons.injEq,Value.bool.injEq,and_true]at this
 obtain⟨_,rfl,rfl⟩:=this
 exact⟨A,cc,_,f,A1,_,c1,A2,_,c2,h1,rfl⟩
theorem Ea{H:Heap}{gv g w:Nat}{ts:List Value}(hv:cell H ⟨gv,0,none⟩=some (.pointer (some ⟨g,0,none⟩)))(hg:H g=some ⟨.int .i64 (w:Int)::ts,9,127,true⟩)(bA:gv≠g)(hw:(w:Int)≤1000000):
 Fn Tryz.prog 120 #[.pointer (some ⟨gv,0,none⟩)] H (fun v H'=>v = .int .i64 (w:Int)∧H'=ins H g ⟨.int .i64 ((w+1:Nat):Int)::ts,9,127,true⟩):=by
 have m7:cell H ((⟨g,0,none⟩:Addr))=some (.int .i64 (w:Int)):=by simp[cell,hg]
 have C2:∀e,cell (ins H g e) ⟨gv,0,none⟩=some (.pointer (some ⟨g,0,none⟩)):=fun e=>by
  simp only[cell,bn _ _ bA]at hv⊢;exact hv
 refine aY (args:=[_]) Tryz.func120 rfl rfl Tryz.ntmps120 rfl rfl fun w0=> ?_;refine ah [0] rfl ?_;refine ae (aa 1 rfl (ab [0] ?_));refine ae (aR ag rfl rfl rfl (hv) (aa 1 rfl (aV ag rfl rfl rfl (aR ag rfl rfl rfl (m7) (aF rfl rfl ⟨by omega,by omega⟩ (aa 1 rfl (aV ag rfl rfl rfl ?_)))))));obtain⟨ti,aj,ak⟩:=vq;refine j9 (g:=g) (o:=0) (.inl rfl) rfl hg rfl (by show 0+1≤(Value.int .i64 (w:Int)::ts).length;simp) aj ak rfl rfl rfl rfl ?_;rw[show ({(⟨.int .i64 (w:Int)::ts,9,127,true⟩:Ent)with xs:=aL (.int .i64 (w:Int)::ts) 0 [.int .i64 ((w:Int)+1)]}:Ent)=⟨.int .i64 ((w+1:Nat):Int)::ts,9,127,true⟩from rfl];refine ab [0] ?_;refine ae (aR ag rfl rfl rfl (C2 _) (aa 1 rfl (aV ag rfl rfl rfl (aR ag rfl rfl rfl (show cell (ins H g ⟨.int .i64 ((w+1:Nat):Int)::ts,9,127,true⟩) ⟨g,0,none⟩=some (.int .i64 ((w+1:Nat):Int))from by simp[cell,ins]) ?_))));refine cQ rfl rfl ⟨by omega,by omega⟩ (aa 1 rfl (ab [1] ?_));refine az ⟨.inr rfl,_,.tmp rfl (.nil),?_⟩;refine⟨?_,rfl⟩
 show Value.int .i64 (((w+1:Nat):Int)-1)=_
 rw[show (((w+1:Nat):Int)-1)=(w:Int) by omega]
end Go.aq
namespace Go.aq
open Go.Proofs Num
theorem BF{H:Heap}{u:Value}{l:List Nat}(hu:jD H u l)(bP:Lt l)(hm:(l.length:Int)≤17592186044416):
 Fn Tryz.prog 115 #[u] H (mW H (val l)):=by
 obtain⟨A,c,rfl,hc,hr⟩:=hu;refine aY (args:=[_]) Tryz.func115 rfl rfl Tryz.ntmps115 rfl rfl fun w0=> ?_;refine ah [0] rfl ?_;refine ae (aa 1 rfl (ab [0] ?_));refine ae (aa 3 rfl (ab [0,3] ?_));refine ao (aE (fI (fun(k:Nat)=>k) (fun(k:Nat)=>put (put (emp) 0 (.val (.slice A l.length c))) 3 (.val (.int .i64 (k:Int)))) (fun(k:Nat) H'=>H'=H∧k≤l.length∧val (l.take k)=val l) l.length (⟨rfl,Nat.le_refl _,by simp⟩) ar ?_));rintro k H1 ⟨rfl,hk,hv⟩;refine ao ?_
 rcases Nat.eq_zero_or_pos k with Db | Db
 ·
  skip
  refine ae (aa 1 rfl (aG false rfl rfl (kA (by omega)) (aa 8 rfl (ab [0,3,15] ?_))));refine dd rfl (aU (ah [0,3] rfl ?_));refine ae (aa 2 rfl (rR ag rfl rfl (.inl ⟨rfl,rfl⟩) (.inr ⟨_,_,rfl,rfl⟩) (by omega) (by omega) ?_));rw[yH];refine eD Tryz.underlying36 eL rfl rfl (yG _) (hr.take k) (by simp[C9];omega) (fun u hu=>oC _ u (List.mem_of_mem_take hu)) (by simp;omega) (by simp;omega) ?_;intro v1 H2 ha;rw[←FR,Nat.sub_zero]at ha;refine aa 1 rfl (ab [2] ?_);refine az ⟨.inr rfl,_,.tmp rfl (.nil),?_⟩;have e:=Ke bP hk hv (.inl Db);have h1:=(App.pG (a:=[]) (b:=l.take k) ha rfl (by simp;omega)).lim;rw[List.nil_append,←e]at h1;exact⟨ha.le,h1⟩
 ·
  obtain⟨x,hx⟩:∃x,l[k-1]? = some x:=⟨_,List.getElem?_eq_getElem (by omega)⟩;refine ae (aa 1 rfl (aG true rfl rfl (oB (by omega)) (aa 3 rfl (cQ rfl rfl ⟨by omega,by omega⟩ (aS ag rfl rfl rfl rfl rfl (hr) (dC (by rw[show ((k:Int)-1).toNat=k-1 by omega];exact hx)) (by omega) (by omega) fun _=> ?_)))));refine aa 2 rfl (ab [0,3,15] ?_);refine aD rfl (fun hb=> ?_) (fun hb=> ?_)
  ·
   have hb:x=0:=by simpa using hb
   refine aw (ah [0,3] rfl ?_);refine aE (aA rfl (aa 1 rfl (cQ rfl rfl ⟨by omega,by omega⟩ (aa 1 rfl (au ?_)))));exact⟨k-1,by omega,ar,rfl,by omega,by have:=kV hx;rw[show k-1+1=k by omega,hb,Nat.mul_zero,Nat.add_zero]at this;rw[←this];exact hv⟩
  have hb:x≠0:=by simpa using hb
  refine aU (ah [0,3] rfl ?_);refine ae (aa 2 rfl (rR ag rfl rfl (.inl ⟨rfl,rfl⟩) (.inr ⟨_,_,rfl,rfl⟩) (by omega) (by omega) ?_));rw[yH];refine eD Tryz.underlying36 eL rfl rfl (yG _) (hr.take k) (by simp[C9];omega) (fun u hu=>oC _ u (List.mem_of_mem_take hu)) (by simp;omega) (by simp;omega) ?_;intro v1 H2 ha;rw[←FR,Nat.sub_zero]at ha;refine aa 1 rfl (ab [2] ?_);refine az ⟨.inr rfl,_,.tmp rfl (.nil),?_⟩;have e:=Ke bP hk hv (.inr ⟨x,hx,hb⟩);have h1:=(App.pG (a:=[]) (b:=l.take k) ha rfl (by simp;omega)).lim;rw[List.nil_append,←e]at h1;exact⟨ha.le,h1⟩
theorem XB{H:Heap}{u:Value}{l:List Nat}(hu:jD H u l)(AN:∀x,x∈l→x<4294967296)(hm:(l.length:Int)≤8796093022208):
 Fn Tryz.prog 74 #[u] H (mW H (val l)):=by
 obtain⟨A,c,rfl,hc,hr⟩:=hu;refine aY (args:=[_]) Tryz.func74 rfl rfl Tryz.ntmps74 rfl rfl fun w0=> ?_;refine ah [0] rfl ?_;refine ae (aa 1 rfl (ab [0] ?_));refine ae (aa 1 rfl (ab [0,3] ?_));refine ae (aa 1 rfl (ab [0,3,4] ?_));refine ao (ae (aa 1 rfl (ab [0,3,4,5] ?_)));refine aE (rS (fun(k:Nat)(v:Value)(o:List Nat)(cr:Nat)=>l.length-k) (fun(k:Nat)(v:Value)(o:List Nat)(cr:Nat)=>put (put (put (put (emp) 0 (.val (.slice A l.length c))) 3 (.val (v))) 4 (.val (.int .u64 (cr:Int)))) 5 (.val (.int .i64 (k:Int)))) (fun(k:Nat)(v:Value)(o:List Nat)(cr:Nat) H'=>Heap.le H H'∧kW H' v o∧k≤l.length∧o.length=k∧Lt o∧cr≤4∧val o+B^k*cr=val (l.take k)) 0 _ [] 0 (⟨.refl _,yG _,by omega,rfl,Lt.nil,by omega,by simp[val]⟩) ar ?_);rintro k v o cr H1 ⟨hle,cG,hk,dX,eE,qu,hv⟩;obtain⟨Ao,co,rfl⟩:=bW.form cG;refine ao (ae (aa 4 rfl (ab [0,3,4,5,9] ?_)));refine aD rfl (fun hb=> ?_) (fun hb=> ?_)
 ·
  have hb:k<l.length:=by simpa using hb
  obtain⟨p,hp⟩:∃p,l[k]? = some p:=⟨_,List.getElem?_eq_getElem hb⟩;have aeG:=AN p (List.mem_of_getElem? hp);refine aw (ah [0,3,4,5] rfl ?_);refine ao (aE (ae (aa 3 rfl (aS ag rfl rfl rfl rfl rfl (hr.le hle) (dC hp) (by omega) (by omega) fun _=>(dr ag rfl rfl rfl ⟨by omega,by omega⟩ (aF rfl rfl ⟨by omega,by omega⟩ (aa 1 rfl (ab [0,3,4,5] ?_))))))));refine ae (aa 2 rfl (mT rfl rfl (by omega) (by omega) (dr ag rfl rfl rfl ⟨by omega,by omega⟩ (cS Tryz.underlying36 eL rfl rfl rfl rfl rfl rfl rfl ?_))));intro gb a6;refine eD Tryz.underlying36 eL rfl rfl (cG.ins _ a6) (rX (y:=(cr+p)%1000000000) rfl) (rfl) (oC _) (by omega) (by omega) ?_;intro v1 H2 ha;refine aa 1 rfl (ab [0,3,4,5] ?_);refine aA rfl (aa 1 rfl (lS rfl rfl (by omega) (by omega) ⟨by omega,by omega⟩ (aa 1 rfl (au (ah [0,3,4,5] rfl ?_)))));refine aA rfl (aa 1 rfl (aF rfl rfl ⟨by omega,by omega⟩ (aa 1 rfl (au ?_))));have dZ:=C7 (s:=cr+p) (u:=val (l.take (k+1))) dX hv rfl (kV hp);exact⟨k+1,v1,o ++ [(cr+p)%B],(cr+p)/B,by omega,ar,(hle.trans (Heap.bI _ a6)).trans ha.le,ha.pG rfl rfl,by omega,by simp[dX],eE.snoc (Nat.mod_lt _ mU),by rw[ck];omega,dZ⟩
 ·
  have hb:l.length≤k:=by simpa using hb
  obtain rfl:k=l.length:=by omega
  rw[List.take_length]at hv;refine aU (ah [3,4] rfl ?_);refine AI (fun(v:Value)(o:List Nat)=>put (emp) 3 (.val (v))) (fun(v:Value)(o:List Nat) H'=>Heap.le H H'∧kW H' v o∧o.length≤l.length+1∧Lt o∧val o=val l) ?_ ?_
  ·
   refine ae (aa 2 rfl (ab [3,4,28] ?_));refine aD rfl (fun hb=> ?_) (fun hb=> ?_)
   ·
    have hb:0<cr:=by simpa using hb
    refine aA rfl (aa 2 rfl (dr ag rfl rfl rfl ⟨by omega,by omega⟩ (cS Tryz.underlying36 eL rfl rfl rfl rfl rfl rfl rfl ?_)));intro gb a6;refine eD Tryz.underlying36 eL rfl rfl (cG.ins _ a6) (rX (y:=cr) rfl) (rfl) (oC _) (by omega) (by omega) ?_;intro v1 H2 ha;refine aa 1 rfl (au ?_);exact⟨v1,o ++ [cr],(by repeat (first | exact iN _ | refine dB rfl ?_ | refine dB (jb (by omega)) ?_)),(hle.trans (Heap.bI _ a6)).trans ha.le,ha.pG rfl rfl,by simp;omega,eE.snoc (by rw[ck];omega),by rw[rU,dX];exact hv⟩
   have hb:cr=0:=by simpa using hb
   refine aw ?_;exact⟨_,o,(by repeat (first | exact iN _ | refine dB rfl ?_ | refine dB (jb (by omega)) ?_)),hle,cG,by omega,eE,by rw[hb,Nat.mul_zero]at hv;omega⟩
  rintro v o H3 ⟨hle,cG,dX,eE,hv⟩;refine ae (aa 1 rfl (aB rfl rfl (BF cG.lim eE (by omega)) ?_));intro v1 H4 hp;refine aa 1 rfl (ab [2] ?_);refine az ⟨.inr rfl,_,.tmp rfl (.nil),?_⟩;exact⟨hle.trans hp.le,by have:=hp.nat;rwa [hv]at this⟩
theorem GW{H:Heap}{x:Nat}(hx:x<18446744073709551616):
 Fn Tryz.prog 41 #[.int .u64 (x:Int)] H (mW H x):=by
 refine aY (args:=[_]) Tryz.func41 rfl rfl Tryz.ntmps41 rfl rfl fun w0=> ?_;refine ah [0] rfl ?_;refine ae (aa 1 rfl (ab [0] ?_));refine ae (aa 1 rfl (ab [0,3] ?_));refine ao (aE (fD (fun(y:Nat)(v:Value)(o:List Nat)=>y) (fun(y:Nat)(v:Value)(o:List Nat)=>put (put (emp) 0 (.val (.int .u64 (y:Int)))) 3 (.val (v))) (fun(y:Nat)(v:Value)(o:List Nat) H'=>Heap.le H H'∧kW H' v o∧y≤x∧o++al y=al x) x (.slice none 0 0) [] (⟨.refl _,yG _,Nat.le_refl _,rfl⟩) ar ?_));rintro y v o H1 ⟨hle,cG,wG,ho⟩;obtain⟨A,c,rfl⟩:=bW.form cG
 have dX:o.length≤(al x).length:=by rw[←ho];simp
 have cY:(al x).length≤3:=jd.2 (by rw[ck];omega);refine ao (ae (aa 2 rfl (ab [0,3,5] ?_)));refine aD rfl (fun hb=> ?_) (fun hb=> ?_)
 ·
  have hb:0<y:=by simpa using hb
  refine aw (ah [0,3] rfl ?_);refine aE (ae (aa 2 rfl (mT rfl rfl (by omega) (by omega) (dr ag rfl rfl rfl ⟨by omega,by omega⟩ (cS Tryz.underlying36 eL rfl rfl rfl rfl rfl rfl rfl ?_)))));intro gb a6;refine eD Tryz.underlying36 eL rfl rfl (cG.ins _ a6) (rX (Vd y 1000000000)) (rfl) (oC _) (by omega) (by omega) ?_;intro v1 H2 ha;refine aa 1 rfl (ab [0,3] ?_);refine aA rfl (aa 1 rfl (lS rfl rfl (by omega) (by omega) ⟨by omega,by omega⟩ (aa 1 rfl (au ?_))))
  have jm:0<y:=by omega
  rw[yE jm]at ho;exact⟨y/B,v1,o ++ [y%B],Nat.div_lt_self jm (by decide),ar,(hle.trans (Heap.bI _ a6)).trans ha.le,ha.pG rfl rfl,Nat.le_trans (Nat.div_le_self _ _) wG,by simpa using ho⟩
 ·
  have hb:y=0:=by simpa using hb
  refine aU (ah [3] rfl ?_);refine ae (aa 2 rfl (ab [2] ?_));refine az ⟨.inr rfl,_,.tmp rfl (.nil),?_⟩;subst hb;exact⟨hle,Da (cG.lim) (by rw[show o=al x by simpa [qt]using ho];exact fR x) (by rw[show o=al x by simpa [qt]using ho];exact cU x)⟩
theorem Lk{H:Heap}{u v:Value}{x y:Nat}(hx:dt H u x)(hy:dt H v y)(hm:((al x).length:Int)≤35184372088832):
 Fn Tryz.prog 72 #[u,v] H (j8 H (.int .i64 (kz x y))):=by
 obtain⟨A,c,rfl,hc,hr⟩:=hx
 obtain⟨A',c',rfl,jA,dS⟩:=hy;refine aY (args:=[_,_]) Tryz.func72 rfl rfl Tryz.ntmps72 rfl rfl fun w0=> ?_;refine ah [0,1] rfl ?_;refine ae (aa 1 rfl (ab [0,1] ?_));refine ao (ae (aa 5 rfl (ab [0,1,10] ?_)));refine aD rfl (fun hb=> ?_) (fun hb=> ?_)
 ·
  have hl:(al x).length≠(al y).length:=by simp at hb;omega
  refine ao (ae (aa 5 rfl (ab [15] ?_)));refine aD rfl (fun hb=> ?_) (fun hb=> ?_)
  ·
   simp at hb
   refine ae (aa 1 rfl (ab [4] ?_));refine az ⟨.inr rfl,_,.tmp rfl (.nil),?_⟩;exact⟨rfl,by rw[Ka (Kc hb)];rfl⟩
  ·
   simp at hb
   refine aw (ah [] rfl ?_);refine ae (aa 1 rfl (ab [4] ?_));refine az ⟨.inr rfl,_,.tmp rfl (.nil),?_⟩;exact⟨rfl,by rw[Kb (Kc (by omega))];rfl⟩
 ·
  have hl:(al x).length=(al y).length:=by simp at hb;omega
  refine aw (ah [0,1] rfl ?_);refine ao (ae (aa 2 rfl (cQ rfl rfl ⟨by omega,by omega⟩ (aa 1 rfl (ab [0,1,5] ?_)))));refine aE (fI (fun(k:Nat)=>k) (fun(k:Nat)=>put (put (put (emp) 0 (.val (.slice A (al x).length c))) 1 (.val (.slice A' (al y).length c'))) 5 (.val (.int .i64 ((k:Int)-1)))) (fun(k:Nat) H'=>H'=H∧k≤(al x).length∧(al x).drop k=(al y).drop k) (al x).length (⟨rfl,Nat.le_refl _,by rw[List.drop_of_length_le (Nat.le_refl _),List.drop_of_length_le (by omega)]⟩) ar ?_);rintro k H1 ⟨rfl,hk,hd⟩;refine ao (ae (aa 2 rfl (ab [0,1,5,20] ?_)));refine aD rfl (fun hb=> ?_) (fun hb=> ?_)
  ·
   simp at hb
   obtain⟨p,hp⟩:∃p,(al x)[k-1]? = some p:=⟨_,List.getElem?_eq_getElem (by omega)⟩;obtain⟨q,hq⟩:∃q,(al y)[k-1]? = some q:=⟨_,List.getElem?_eq_getElem (by omega)⟩
   have hj:((k:Int)-1).toNat=k-1:=by omega
   have ff:(al x).drop (k-1+1)=(al y).drop (k-1+1):=by rw[show k-1+1=k by omega];exact hd
   refine aw (ah [0,1,5] rfl ?_);refine ao (aE (ao (bN .bK [0,1,2,3,4,5,6,7,8] follows (by kernel_rfl) ?_)));refine aa 2 rfl (aS ag rfl rfl rfl rfl rfl (hr) (by rw[hj];exact dC hp) (by omega) (by omega) fun _=> ?_);refine aa 2 rfl (aS ag rfl rfl rfl rfl rfl (dS) (by rw[hj];exact dC hq) (by omega) (by omega) fun _=> ?_);refine aa 1 rfl (ab [0,1,5,31] ?_);refine aD rfl (fun hb=> ?_) (fun hb=> ?_)
   ·
    have mV:p<q:=by simpa using hb
    refine ae (aa 1 rfl (ab [4] ?_));refine az ⟨.inr rfl,_,.tmp rfl (.nil),?_⟩;exact⟨rfl,by rw[Ka (by have:=J9 (fR x).lt hp hq ff mV;rwa [cU,cU]at this)];rfl⟩
   have mV:¬p<q:=by simpa using hb
   refine aw (ah [0,1,5] rfl ?_);refine bN .bK [0,1,2,3,4,5,6,7,8] follows (by kernel_rfl) ?_;refine aa 2 rfl (aS ag rfl rfl rfl rfl rfl (hr) (by rw[hj];exact dC hp) (by omega) (by omega) fun _=> ?_);refine aa 2 rfl (aS ag rfl rfl rfl rfl rfl (dS) (by rw[hj];exact dC hq) (by omega) (by omega) fun _=> ?_);refine aa 1 rfl (ab [0,1,5,40] ?_);refine aD rfl (fun hb=> ?_) (fun hb=> ?_)
   ·
    have FT:q<p:=by simpa using hb
    refine ae (aa 1 rfl (ab [4] ?_));refine az ⟨.inr rfl,_,.tmp rfl (.nil),?_⟩;exact⟨rfl,by rw[Kb (by have:=J9 (fR y).lt hq hp ff.symm FT;rwa [cU,cU]at this)];rfl⟩
   have FT:¬q<p:=by simpa using hb
   refine aw (ah [0,1,5] rfl ?_);refine aA rfl (aa 1 rfl (cQ rfl rfl ⟨by omega,by omega⟩ (aa 1 rfl (au ?_))))
   obtain rfl:p=q:=by omega
   exact⟨k-1,by omega,ar,rfl,by omega,Va (by omega) hp hq hd⟩
  simp at hb
  refine aU (ah [] rfl ?_);refine ae (aa 1 rfl (ab [4] ?_));refine az ⟨.inr rfl,_,.tmp rfl (.nil),?_⟩
  obtain rfl:k=0:=by omega
  have:x=y:=by rw[←cU x,←cU y];simpa using congrArg val hd
  exact⟨rfl,by rw[this,U9];rfl⟩
end Go.aq
namespace Go.aq
open Go.Proofs Num
theorem getD_lt{l:List Nat}(h:Lt l)(k:Nat):(l[k]?).getD 0<1000000000:=by
 cases hq:l[k]? with
 | none=>simp
 | some z=>have:=h.get hq;rw[ck]at this;simpa using this
theorem getD_some{l:List Nat}{k e:Nat}(he:e=(l[k]?).getD 0)(h:k<l.length):l[k]? = some e:=by
 rw[List.getElem?_eq_getElem h]at he⊢;simp at he;rw[he]
theorem getD_none{l:List Nat}{k e:Nat}(he:e=(l[k]?).getD 0)(h:l.length≤k):e=0:=by
 rw[he,List.getElem?_eq_none h];rfl
theorem agT{H:Heap}{u v:Value}{x y:Nat}(hx:dt H u x)(hy:dt H v y)(hm:((al x).length:Int)≤8796093022208)(bL:((al y).length:Int)≤8796093022208):
 Fn Tryz.prog 71 #[u,v] H (mW H (x+y)):=by
 obtain⟨A,c,rfl,hc,hr⟩:=hx
 obtain⟨A',c',rfl,jA,dS⟩:=hy
 have fY:=(fR x).lt
 have dO:=(fR y).lt
 obtain⟨M,hM⟩:∃M,M=max (al x).length (al y).length:=⟨_,rfl⟩;refine aY (args:=[_,_]) Tryz.func71 rfl rfl Tryz.ntmps71 rfl rfl fun w0=> ?_;refine ah [0,1] rfl ?_;refine ae (aa 1 rfl (ab [0,1] ?_));refine ae (aa 1 rfl (ab [0,1,5] ?_));refine ae (aa 1 rfl (ab [0,1,5,6] ?_));refine ao (ae (aa 1 rfl (ab [0,1,5,6,7] ?_)));refine aE (rS (fun(k:Nat)(v:Value)(o:List Nat)(cr:Nat)=>M+1-k) (fun(k:Nat)(v:Value)(o:List Nat)(cr:Nat)=>put (put (put (put (put (emp) 0 (.val (.slice A (al x).length c))) 1 (.val (.slice A' (al y).length c'))) 5 (.val (v))) 6 (.val (.int .u32 (cr:Int)))) 7 (.val (.int .i64 (k:Int)))) (fun(k:Nat)(v:Value)(o:List Nat)(cr:Nat) H'=>Heap.le H H'∧kW H' v o∧k≤M+1∧o.length=k∧Lt o∧cr≤1∧val o+B^k*cr=val ((al x).take k)+val ((al y).take k)∧(k=M+1→cr=0∧B^M≤val o)) 0 _ [] 0 (⟨.refl _,yG _,by omega,rfl,Lt.nil,by omega,by simp[val],by omega⟩) ar ?_);rintro k v o cr H1 ⟨hle,cG,hk,dX,eE,qu,hv,hM1⟩;obtain⟨Ao,co,rfl⟩:=bW.form cG;refine C3 (put (put (put (put (put (emp) 0 (.val (.slice A (al x).length c))) 1 (.val (.slice A' (al y).length c'))) 5 (.val (.slice Ao o.length co))) 6 (.val (.int .u32 (cr:Int)))) 7 (.val (.int .i64 (k:Int)))) (fun H'=>H'=H1∧k≤M∧(k<(al x).length∨k<(al y).length∨0<cr)) ?_ ?_
 ·
  by_cases nQ:k<(al x).length
  ·
   skip
   refine ae (aa 3 rfl (aG true rfl rfl (je (by omega)) (aa 10 rfl (ab [0,1,5,6,7,22] ?_))));refine cI rfl (aw ?_);exact⟨ar,rfl,by omega,.inl nQ⟩
  ·
   by_cases qJ:k<(al y).length
   skip
   ·
    skip
    refine ae (aa 3 rfl (aG false rfl rfl (iq (by omega)) (aa 4 rfl (aG true rfl rfl (je (by omega)) (aa 5 rfl (ab [0,1,5,6,7,22] ?_))))));refine cI rfl (aw ?_);exact⟨ar,rfl,by omega,.inr (.inl qJ)⟩
   skip
   refine ae (aa 3 rfl (aG false rfl rfl (iq (by omega)) (aa 4 rfl (aG false rfl rfl (iq (by omega)) (aa 5 rfl (ab [0,1,5,6,7,22] ?_))))));refine aD rfl (fun hb=> ?_) (fun hb=> ?_)
   ·
    have hb:0<cr:=by simpa using hb
    refine aw ?_;exact⟨ar,rfl,by omega,.inr (.inr hb)⟩
   have hb:cr=0:=by simpa using hb
   refine aU (ah [5] rfl ?_);refine ae (aa 2 rfl (ab [4] ?_));refine az ⟨.inr rfl,_,.tmp rfl (.nil),?_⟩;subst hb;rw[Nat.mul_zero,Nat.add_zero,List.take_of_length_le (by omega),List.take_of_length_le (by omega),cU,cU]at hv;refine⟨hle,Da cG.lim (last_pos eE dX ?_) hv⟩
   rcases Nat.eq_zero_or_pos k with e | e
   ·exact .inl e
   right
   by_cases h1:k=M+1
   ·
    have:=(hM1 h1).2;rw[show k-1=M by omega];exact this
   have h2:k=M:=by omega
   rw[hv]
   rcases Nat.le_total (al x).length (al y).length with h3 | h3
   ·
    have h4:k=(al y).length:=by omega
    have h5:=Ov (y:=y) (Nat.pos_of_ne_zero fun e0=>by rw[jO.2 e0]at h4;omega);rw[h4];omega
   have h4:k=(al x).length:=by omega
   have h5:=Ov (y:=x) (Nat.pos_of_ne_zero fun e0=>by rw[jO.2 e0]at h4;omega);rw[h4];omega
 ·
  rintro H2 ⟨rfl,hkM,am1⟩;obtain⟨da,GX⟩:∃e,e=((al x)[k]?).getD 0:=⟨_,rfl⟩;obtain⟨db,tx⟩:∃e,e=((al y)[k]?).getD 0:=⟨_,rfl⟩
  have am2:da<1000000000:=by rw[GX];exact getD_lt fY k
  have am3:db<1000000000:=by rw[tx];exact getD_lt dO k
  refine ao (aE (ae (aa 2 rfl (ab [0,1,5,7,8] ?_))));refine kT (fun(sv:Int)=>put (put (put (put (put (emp) 0 (.val (.slice A (al x).length c))) 1 (.val (.slice A' (al y).length c'))) 5 (.val (.slice Ao o.length co))) 7 (.val (.int .i64 (k:Int)))) 8 (.val (.int .u32 sv))) (fun(sv:Int) H'=>H'=H2∧sv=(cr:Int)+da) ?_ ?_
  ·
   refine ae (aa 4 rfl (ab [0,1,5,7,8,29] ?_));refine aD rfl (fun hb=> ?_) (fun hb=> ?_)
   ·
    have hb:k<(al x).length:=by simpa using hb
    have hz:=getD_some GX hb;refine aA rfl (aa 3 rfl (aS ag rfl rfl rfl rfl rfl (hr.le hle) (dC hz) (by omega) (by omega) fun _=>(aF rfl rfl ⟨by omega,by omega⟩ (aa 1 rfl (au ?_)))));exact⟨(cr:Int)+da,ar,rfl,rfl⟩
   have hb:(al x).length≤k:=by simpa using hb
   have hz:=getD_none GX hb;refine aw ?_;exact⟨(cr:Int),ar,rfl,by omega⟩
  rintro sv H3 ⟨rfl,wH⟩;refine kT (fun(Ll:Int)=>put (put (put (put (put (emp) 0 (.val (.slice A (al x).length c))) 1 (.val (.slice A' (al y).length c'))) 5 (.val (.slice Ao o.length co))) 7 (.val (.int .i64 (k:Int)))) 8 (.val (.int .u32 Ll))) (fun(Ll:Int) H'=>H'=H3∧Ll=(cr:Int)+da+db) ?_ ?_
  ·
   refine ae (aa 4 rfl (ab [0,1,5,7,8,39] ?_));refine aD rfl (fun hb=> ?_) (fun hb=> ?_)
   ·
    have hb:k<(al y).length:=by simpa using hb
    have hz:=getD_some tx hb;refine aA rfl (aa 3 rfl (aS ag rfl rfl rfl rfl rfl (dS.le hle) (dC hz) (by omega) (by omega) fun _=>(aF rfl rfl ⟨by omega,by omega⟩ (aa 1 rfl (au ?_)))));exact⟨sv+db,ar,rfl,by omega⟩
   have hb:(al y).length≤k:=by simpa using hb
   have hz:=getD_none tx hb;refine aw ?_;exact⟨sv,ar,rfl,by omega⟩
  rintro Ll H4 ⟨rfl,am4⟩;refine ae (aa 1 rfl (lS rfl rfl (by omega) (by omega) ⟨by omega,by omega⟩ (aa 1 rfl (ab [0,1,5,6,7,8] ?_))));refine aA rfl (aa 2 rfl (mT rfl rfl (by omega) (by omega) (cS Tryz.underlying36 eL rfl rfl rfl rfl rfl rfl rfl ?_)));intro gb a6;refine eD Tryz.underlying36 eL rfl rfl (cG.ins _ a6) (rX (y:=(cr+da+db)%1000000000) (by omega)) (rfl) (oC _) (by omega) (by omega) ?_;intro v1 H5 ha;refine aa 1 rfl (au (ah [0,1,5,6,7] rfl ?_));refine aA rfl (aa 1 rfl (aF rfl rfl ⟨by omega,by omega⟩ (aa 1 rfl (au ?_))));have dZ:=C7 (s:=cr+da+db) (a:=cr) (b:=da+db) (u:=val ((al x).take (k+1))+val ((al y).take (k+1))) dX hv (by omega) (by rw[yF,yF,←GX,←tx,Nat.mul_add];omega);refine⟨k+1,v1,o ++ [(cr+da+db)%B],(cr+da+db)/1000000000,by omega,ar,(hle.trans (Heap.bI _ a6)).trans ha.le,ha.pG rfl rfl,by omega,by simp[dX],eE.snoc (Nat.mod_lt _ mU),by omega,dZ,fun e=> ?_⟩;have h1:=getD_none GX (by omega);have h2:=getD_none tx (by omega)
  obtain rfl:k=M:=by omega
  have h3:cr=1:=by omega
  subst h1 h2 h3;rw[rU,dX,show (1+0+0)%B=1 from rfl,show (1+0+0)/1000000000=0 from rfl];exact⟨rfl,by omega⟩
end Go.aq
namespace Go.aq
open Go.Proofs Num
theorem Lm{H:Heap}{u v:Value}{x y:Nat}(hx:dt H u x)(hy:dt H v y)(wG:y≤x)(hm:((al x).length:Int)≤8796093022208):
 Fn Tryz.prog 73 #[u,v] H (mW H (x-y)):=by
 obtain⟨A,c,rfl,hc,hr⟩:=hx
 obtain⟨A',c',rfl,jA,dS⟩:=hy
 have fY:=(fR x).lt
 have dO:=(fR y).lt
 have hl:=ml wG;refine aY (args:=[_,_]) Tryz.func73 rfl rfl Tryz.ntmps73 rfl rfl fun w0=> ?_;refine ah [0,1] rfl ?_;refine ae (aa 1 rfl (ab [0,1] ?_));refine ae (aa 2 rfl (gO Tryz.underlying36 eL rfl rfl rfl (by omega) (by omega) (by omega) (by omega) ?_));intro g hg;rw[show (((al x).length:Int)).toNat=(al x).length from by omega,yJ];have qv:=fun e=>hr.le (Heap.bI (g:=g) e hg);have FU:=fun e=>dS.le (Heap.bI (g:=g) e hg);refine aa 1 rfl (ab [0,1,5] ?_);refine ae (aa 1 rfl (ab [0,1,5,6] ?_));refine ao (ae (aa 1 rfl (ab [0,1,5,6,7] ?_)));refine aE (fD (fun(k:Nat)(o:List Nat)(br:Nat)=>(al x).length-k) (fun(k:Nat)(o:List Nat)(br:Nat)=>put (put (put (put (put (emp) 0 (.val (.slice A (al x).length c))) 1 (.val (.slice A' (al y).length c'))) 5 (.val (.slice (some ⟨g,0,none⟩) (al x).length (al x).length))) 6 (.val (.int .u32 (br:Int)))) 7 (.val (.int .i64 (k:Int)))) (fun(k:Nat)(o:List Nat)(br:Nat) H'=>H'=ins H g (dH o (al x).length)∧k≤(al x).length∧o.length=(al x).length∧Lt o∧br≤1∧val ((al x).take k)+B^k*br=val (o.take k)+val ((al y).take k)) 0 _ 0 (⟨rfl,by omega,by simp,Lt.replicate _,by omega,by simp[val]⟩) ar ?_)
 rintro k o br H1 ⟨rfl,hk,dX,eE,vz,hv⟩;refine ao (ae (aa 4 rfl (ab [0,1,5,6,7,15] ?_)));refine aD rfl (fun hb=> ?_) (fun hb=> ?_)
 ·
  have hb:k<(al x).length:=by simpa using hb
  obtain⟨d,hd⟩:∃d,(al x)[k]? = some d:=⟨_,List.getElem?_eq_getElem hb⟩;have lU:=fY.get hd;rw[ck]at lU;obtain⟨e,he⟩:∃e,e=((al y)[k]?).getD 0:=⟨_,rfl⟩
  have Dc:e<1000000000:=by rw[he];exact getD_lt dO k
  refine aw (ah [0,1,5,6,7] rfl ?_);refine ao (aE (ae (aa 2 rfl (ab [0,1,5,7,8] ?_))));refine kT (fun(sv:Int)=>put (put (put (put (put (emp) 0 (.val (.slice A (al x).length c))) 1 (.val (.slice A' (al y).length c'))) 5 (.val (.slice (some ⟨g,0,none⟩) (al x).length (al x).length))) 7 (.val (.int .i64 (k:Int)))) 8 (.val (.int .u32 sv))) (fun(sv:Int) H'=>H'=ins H g (dH o (al x).length)∧sv=(br:Int)+e) ?_ ?_
  ·
   refine ae (aa 4 rfl (ab [0,1,5,7,8,22] ?_));refine aD rfl (fun hb=> ?_) (fun hb=> ?_)
   ·
    have hb:k<(al y).length:=by simpa using hb
    have hz:=getD_some he hb;refine aA rfl (aa 3 rfl (aS ag rfl rfl rfl rfl rfl (FU _) (dC hz) (by omega) (by omega) fun _=>(aF rfl rfl ⟨by omega,by omega⟩ (aa 1 rfl (au ?_)))));exact⟨(br:Int)+e,ar,rfl,rfl⟩
   have hb:(al y).length≤k:=by simpa using hb
   have hz:=getD_none he hb;refine aw ?_;exact⟨(br:Int),ar,rfl,by omega⟩
  ·
   rintro sv H4 ⟨rfl,wH⟩;refine ae (aa 2 rfl (aS ag rfl rfl rfl rfl rfl (qv _) (dC hd) (by omega) (by omega) fun _=>(aa 2 rfl (ab [0,1,5,7,8,34] ?_))));refine aD rfl (fun hb=> ?_) (fun hb=> ?_)
   ·
    have hb:sv≤d:=by simpa using hb
    refine aA rfl (aa 4 rfl (aS ag rfl rfl rfl rfl rfl (qv _) (dC hd) (by omega) (by omega) fun _=>(aa 1 rfl (cQ rfl rfl ⟨by omega,by omega⟩ ?_))));obtain⟨ti,aj,ak⟩:=oz;refine cT (.inl rfl) ag rfl rfl rfl (by omega) (by omega) (bC _ _ _) rfl (by rw[oD];omega) aj ak (fun _=>rfl) rfl rfl rfl fun _=> ?_;refine aa 1 rfl (au (ah [0,1,5,6,7] rfl ?_));refine aA rfl (aa 1 rfl (aF rfl rfl ⟨by omega,by omega⟩ (aa 1 rfl (au ?_))));have dZ:=FQ (o:=o.take k) (s:=d-br-e) (br':=0) (d:=d) (e:=e) (by simp;omega) hv (by omega) (kV hd) (show val ((al y).take (k+1))=val ((al y).take k)+B^k*e by rw[yF,←he]);rw[←yK (by omega)]at dZ;exact⟨k+1,o.set k (d-br-e),0,by omega,ar,by rw[vy (y:=d-br-e) (by omega)];rfl,by omega,by simp[dX],eE.set (by rw[ck];omega),by omega,dZ⟩
   have hb:(d:Int)<sv:=by simpa using hb
   refine aA rfl (aa 4 rfl (aS ag rfl rfl rfl rfl rfl (qv _) (dC hd) (by omega) (by omega) fun _=>(aF rfl rfl ⟨by omega,by omega⟩ (aa 1 rfl (cQ rfl rfl ⟨by omega,by omega⟩ ?_)))));obtain⟨ti,aj,ak⟩:=oz;refine cT (.inl rfl) ag rfl rfl rfl (by omega) (by omega) (bC _ _ _) rfl (by rw[oD];omega) aj ak (fun _=>rfl) rfl rfl rfl fun _=> ?_;refine aa 1 rfl (au (ah [0,1,5,6,7] rfl ?_));refine aA rfl (aa 1 rfl (aF rfl rfl ⟨by omega,by omega⟩ (aa 1 rfl (au ?_))));have dZ:=FQ (o:=o.take k) (s:=d+1000000000-br-e) (br':=1) (d:=d) (e:=e) (by simp;omega) hv (by rw[ck];omega) (kV hd) (show val ((al y).take (k+1))=val ((al y).take k)+B^k*e by rw[yF,←he]);rw[←yK (by omega)]at dZ;exact⟨k+1,o.set k (d+1000000000-br-e),1,by omega,ar,by rw[vy (y:=d+1000000000-br-e) (by omega)];rfl,by omega,by simp[dX],eE.set (by rw[ck];omega),by omega,dZ⟩
 ·
  have hb:(al x).length≤k:=by simpa using hb
  obtain rfl:k=(al x).length:=by omega
  rw[List.take_length,List.take_of_length_le hl,cU,cU,List.take_of_length_le (by omega)]at hv;have AO:=vu eE;rw[dX]at AO
  have tH:br=0:=by
   rcases Nat.eq_zero_or_pos br with h|h
   ·exact h
   ·
    obtain rfl:br=1:=by omega
    omega
  refine aU (ah [5] rfl ?_);refine ae (aa 1 rfl (aB rfl rfl (BF (AM _ _ o _ _ dX.symm (Nat.le_refl _)) eE (by omega)) ?_));intro v1 H4 hp;refine aa 1 rfl (ab [4] ?_);refine az ⟨.inr rfl,_,.tmp rfl (.nil),?_⟩;exact⟨(Heap.bI _ hg).trans hp.le,by have:=hp.nat;rwa [show val o=x-y by rw[tH]at hv;omega]at this⟩
theorem xB{H:Heap}{u v:Value}{x y:Nat}(hx:dt H u x)(hy:dt H v y)(hm:((al x).length:Int)<8796093022208)(bL:((al y).length:Int)<8796093022208):
 Fn Tryz.prog 70 #[u,v] H (mW H (x*y)):=by
 obtain⟨A,c,rfl,hc,hr⟩:=hx
 obtain⟨A',c',rfl,jA,dS⟩:=hy
 have fY:=(fR x).lt
 have dO:=(fR y).lt;refine aY (args:=[_,_]) Tryz.func70 rfl rfl Tryz.ntmps70 rfl rfl fun w0=> ?_;refine ah [0,1] rfl ?_;refine ae (aa 1 rfl (ab [0,1] ?_));refine ae (aa 4 rfl (aF rfl rfl ⟨by omega,by omega⟩ (aF rfl rfl ⟨by omega,by omega⟩ (gO Tryz.underlying36 eL rfl rfl rfl (by omega) (by omega) (by omega) (by omega) ?_))));intro g hg;rw[show (((al x).length:Int)+((al y).length:Int)+1).toNat=((al x).length+(al y).length+1)from by omega,yJ];have qv:=fun e=>hr.le (Heap.bI (g:=g) e hg);have FU:=fun e=>dS.le (Heap.bI (g:=g) e hg);refine aa 1 rfl (ab [0,1,5] ?_);refine ao (ae (aa 1 rfl (ab [0,1,5,6] ?_)));refine aE (fX (fun(i:Nat)(o:List Nat)=>(al x).length-i) (fun(i:Nat)(o:List Nat)=>put (put (put (put (emp) 0 (.val (.slice A (al x).length c))) 1 (.val (.slice A' (al y).length c'))) 5 (.val (.slice (some ⟨g,0,none⟩) ((al x).length+(al y).length+1) ((al x).length+(al y).length+1)))) 6 (.val (.int .i64 (i:Int)))) (fun(i:Nat)(o:List Nat) H'=>H'=ins H g (dH o ((al x).length+(al y).length+1))∧i≤(al x).length∧o.length=((al x).length+(al y).length+1)∧Lt o∧rY o (i+(al y).length)∧val o=val ((al x).take i)*y) 0 _ (⟨rfl,by omega,by simp,Lt.replicate _,Vm _ _,by simp[val,Vc]⟩) ar ?_)
 rintro i o H1 ⟨rfl,hi,dX,eE,hz,hv⟩;refine ao (ae (aa 4 rfl (ab [0,1,5,6,19] ?_)));refine aD rfl (fun hb=> ?_) (fun hb=> ?_)
 ·
  have hb:i<(al x).length:=by simpa using hb
  obtain⟨d,hd⟩:∃d,(al x)[i]? = some d:=⟨_,List.getElem?_eq_getElem hb⟩;have lU:=fY.get hd;rw[ck]at lU;refine aw (ah [0,1,5,6] rfl ?_);refine ao (aE (ae (aa 1 rfl (ab [0,1,5,6,7] ?_))));refine ae (aa 1 rfl (ab [0,1,5,6,7,8] ?_));refine aE (fD (fun(j:Nat)(o2:List Nat)(cr:Nat)=>(al y).length+1-j) (fun(j:Nat)(o2:List Nat)(cr:Nat)=>put (put (put (put (put (put (emp) 0 (.val (.slice A (al x).length c))) 1 (.val (.slice A' (al y).length c'))) 5 (.val (.slice (some ⟨g,0,none⟩) ((al x).length+(al y).length+1) ((al x).length+(al y).length+1)))) 6 (.val (.int .i64 (i:Int)))) 7 (.val (.int .u64 (cr:Int)))) 8 (.val (.int .i64 (j:Int)))) (fun(j:Nat)(o2:List Nat)(cr:Nat) H'=>H'=ins H g (dH o2 ((al x).length+(al y).length+1))∧j≤(al y).length+1∧o2.length=((al x).length+(al y).length+1)∧Lt o2∧cr<1000000000∧rY o2 (i+(al y).length+1)∧(j≤(al y).length→rY o2 (i+(al y).length))∧(j=(al y).length+1→cr=0)∧val o2+B^(i+j)*cr=val ((al x).take i)*y+B^i*d*val ((al y).take j)) 0 o 0 (⟨rfl,by omega,dX,eE,by omega,fun t z ht=>hz t z (by omega),fun _=>hz,by omega,by simp[val,hv]⟩) ar ?_);rintro j o2 cr H1 ⟨rfl,hj,FV,AQ,qu,pI,qK,qw,dT⟩
  refine C3 (put (put (put (put (put (put (emp) 0 (.val (.slice A (al x).length c))) 1 (.val (.slice A' (al y).length c'))) 5 (.val (.slice (some ⟨g,0,none⟩) ((al x).length+(al y).length+1) ((al x).length+(al y).length+1)))) 6 (.val (.int .i64 (i:Int)))) 7 (.val (.int .u64 (cr:Int)))) 8 (.val (.int .i64 (j:Int)))) (fun H'=>H'=ins H g (dH o2 ((al x).length+(al y).length+1))∧j≤(al y).length) ?_ ?_
  ·
   by_cases hjb:j<(al y).length
   ·
    skip
    refine ae (aa 3 rfl (aG true rfl rfl (je (by omega)) (aa 4 rfl (ab [0,1,5,6,7,8,29] ?_))));refine cI rfl (aw ?_);exact⟨ar,rfl,by omega⟩
   skip
   refine ae (aa 3 rfl (aG false rfl rfl (iq (by omega)) (aa 4 rfl (ab [0,1,5,6,7,8,29] ?_))));refine aD rfl (fun hb=> ?_) (fun hb=> ?_)
   ·
    have hb:0<cr:=by simpa using hb
    refine aw ?_;exact⟨ar,rfl,by omega⟩
   have hb:cr=0:=by simpa using hb
   subst hb;rw[List.take_of_length_le (l:=al y) (i:=j) (by omega),cU,Nat.mul_zero,Nat.add_zero]at dT;refine aU (ah [0,1,5,6] rfl ?_);refine aA rfl (aa 1 rfl (aF rfl rfl ⟨by omega,by omega⟩ (aa 1 rfl (au ?_))));refine⟨i+1,o2,by omega,ar,rfl,by omega,FV,AQ,by rw[Nat.add_right_comm];exact pI,?_⟩;rw[kV hd,Nat.add_mul]
   omega
  ·
   rintro H4 ⟨rfl,Xg⟩;obtain⟨p,hp⟩:∃p,p=((al y)[j]?).getD 0:=⟨_,rfl⟩
   have yI:p<1000000000:=by rw[hp];exact getD_lt dO j
   obtain⟨e,he⟩:∃e,o2[i+j]? = some e:=⟨_,List.getElem?_eq_getElem (by omega)⟩;have Dc:=AQ.get he;rw[ck]at Dc
   have AR:((i:Int)+(j:Int)).toNat=i+j:=by omega
   have Vi:d*p≤999999999*999999999:=Nat.mul_le_mul (by omega) (by omega)
   have Vj:(d:Int)*(p:Int)=((d*p:Nat):Int):=by simp
   refine ao (aE (ae (aa 4 rfl (aF rfl rfl ⟨by omega,by omega⟩ (aS ag rfl rfl rfl rfl rfl (Kg _ _ _ _) (by rw[AR];exact dC he) (by omega) (by omega) fun _=> ?_)))));refine dr ag rfl rfl rfl ⟨by omega,by omega⟩ (aF rfl rfl ⟨by omega,by omega⟩ (aa 1 rfl (ab [0,1,5,6,7,8] ?_)));refine kT (fun(sv:Int)=>put (put (put (put (put (put (emp) 0 (.val (.slice A (al x).length c))) 1 (.val (.slice A' (al y).length c'))) 5 (.val (.slice (some ⟨g,0,none⟩) ((al x).length+(al y).length+1) ((al x).length+(al y).length+1)))) 6 (.val (.int .i64 (i:Int)))) 7 (.val (.int .u64 sv))) 8 (.val (.int .i64 (j:Int)))) (fun(sv:Int) H'=>H'=ins H g (dH o2 ((al x).length+(al y).length+1))∧sv=((d*p+e+cr:Nat):Int)) ?_ ?_
   ·
    refine ae (aa 4 rfl (ab [0,1,5,6,7,8,44] ?_));refine aD rfl (fun hb=> ?_) (fun hb=> ?_)
    ·
     have hb:j<(al y).length:=by simpa using hb
     have dJ:=getD_some hp hb;refine eK .bK [0,1,2,3,4,5,6,7,8,9,10,11,12,13] follows (by kernel_rfl) ?_;refine aa 3 rfl (aS ag rfl rfl rfl rfl rfl (qv _) (dC hd) (by omega) (by omega) fun _=>(dr ag rfl rfl rfl ⟨by omega,by omega⟩ (aa 2 rfl (aS ag rfl rfl rfl rfl rfl (FU _) (dC dJ) (by omega) (by omega) fun _=>(dr ag rfl rfl rfl ⟨by omega,by omega⟩ (gZ rfl rfl ⟨by omega,by omega⟩ (aF rfl rfl ⟨by omega,by omega⟩ (aa 1 rfl (au ?_)))))))));exact⟨((d*p+e+cr:Nat):Int),ar,rfl,rfl⟩
    have hb:(al y).length≤j:=by simpa using hb
    have dJ:=getD_none hp hb
    have O5:d*p=0:=by rw[dJ,Nat.mul_zero]
    refine aw ?_;exact⟨((d*p+e+cr:Nat):Int),ar,rfl,rfl⟩
   rintro sv H4 ⟨rfl,wH⟩;refine ae (aa 3 rfl (aF rfl rfl ⟨by omega,by omega⟩ (aa 1 rfl (mT rfl rfl (by omega) (by omega) (dr ag rfl rfl rfl ⟨by omega,by omega⟩ ?_)))));obtain⟨ti,aj,ak⟩:=oz;refine cT (.inl rfl) ag rfl rfl rfl (by omega) (by omega) (bC _ _ _) rfl (by rw[oD];omega) aj ak (fun _=>rfl) rfl rfl rfl fun _=> ?_;refine ab [0,1,5,6,7,8] ?_;refine aA rfl (aa 1 rfl (lS rfl rfl (by omega) (by omega) ⟨by omega,by omega⟩ (aa 1 rfl (au (ah [0,1,5,6,7,8] rfl ?_)))));refine aA rfl (aa 1 rfl (aF rfl rfl ⟨by omega,by omega⟩ (aa 1 rfl (au ?_))));refine⟨j+1,o2.set (i+j) ((d*p+e+cr)%B),(d*p+e+cr)/1000000000,by omega,ar,by rw[vy (y:=(d*p+e+cr)%B) (by rw[ck];omega),AR],by omega,by simp[FV],AQ.set (Nat.mod_lt _ mU),by omega,pI.set (by omega),fun h=>(qK (by omega)).set (by omega),fun h=> ?_,?_⟩
   ·
    have h1:=getD_none hp (by omega);have h2:=qK (by omega) (i+j) e (by omega) he;subst h1 h2
    omega
   rw[yF,←hp];exact Vn he dT rfl
 ·
  have hb:(al x).length≤i:=by simpa using hb
  obtain rfl:i=(al x).length:=by omega
  rw[List.take_length,cU]at hv;refine aU (ah [5] rfl ?_);refine ae (aa 1 rfl (aB rfl rfl (BF (AM _ _ o _ _ dX.symm (Nat.le_refl _)) eE (by omega)) ?_));intro v1 H4 hp;refine aa 1 rfl (ab [4] ?_);refine az ⟨.inr rfl,_,.tmp rfl (.nil),?_⟩;exact⟨(Heap.bI _ hg).trans hp.le,by have:=hp.nat;rwa [hv]at this⟩
theorem agU{H:Heap}{u:Value}{l:List Nat}{m:Nat}(hu:jD H u l)(hl:Lt l)(hm:m<1000000000)(wI:0<m)(hs:(l.length:Int)≤8796093022208):
 Fn Tryz.prog 116 #[u,.int .u64 (m:Int)] H (fun v H'=>Heap.le H H'∧∃q,v = .tuple #[q,.int .u64 ((val l%m:Nat):Int)]∧dt H' q (val l/m)):=by
 obtain⟨A,c,rfl,hc,hr⟩:=hu;refine aY (args:=[_,_]) Tryz.func116 rfl rfl Tryz.ntmps116 rfl rfl fun w0=> ?_;refine ah [0,1] rfl ?_;refine ae (aa 2 rfl (ab [0,1] ?_));refine ae (aa 2 rfl (gO Tryz.underlying36 eL rfl rfl rfl (by omega) (by omega) (by omega) (by omega) ?_));intro g hg;rw[show ((l.length:Int)).toNat=l.length from by omega,yJ];have qv:=fun e=>hr.le (Heap.bI (g:=g) e hg);refine aa 1 rfl (ab [0,1,6] ?_);refine ae (aa 1 rfl (ab [0,1,6,7] ?_));refine ao (ae (aa 2 rfl (cQ rfl rfl ⟨by omega,by omega⟩ (aa 1 rfl (ab [0,1,6,7,8] ?_)))));refine aE (fD (fun(k:Nat)(o:List Nat)(rs:Nat)=>k) (fun(k:Nat)(o:List Nat)(rs:Nat)=>put (put (put (put (put (emp) 0 (.val (.slice A l.length c))) 1 (.val (.int .u64 (m:Int)))) 6 (.val (.slice (some ⟨g,0,none⟩) l.length l.length))) 7 (.val (.int .u64 (rs:Int)))) 8 (.val (.int .i64 ((k:Int)-1)))) (fun(k:Nat)(o:List Nat)(rs:Nat) H'=>H'=ins H g (dH o l.length)∧k≤l.length∧o.length=l.length∧Lt o∧rs<m∧val (o.drop k)*m+rs=val (l.drop k)) l.length _ 0 (⟨rfl,by omega,by simp,Lt.replicate _,by omega,by simp[val]⟩) ar ?_);rintro k o rs H1 ⟨rfl,hk,dX,eE,yL,hv⟩;refine ao ?_
 refine ae (aa 2 rfl (ab [0,1,6,7,8,16] ?_));refine aD rfl (fun hb=> ?_) (fun hb=> ?_)
 ·
  have hb:1≤k:=by simp at hb;omega
  obtain⟨k,rfl⟩:∃j,k=j+1:=⟨k-1,by omega⟩;obtain⟨d,hd⟩:∃d,l[k]? = some d:=⟨_,List.getElem?_eq_getElem (by omega)⟩;have lU:=hl.get hd;rw[ck]at lU
  have hj:(((k+1:Nat):Int)-1).toNat=k:=by omega
  have mm:((rs:Int)*1000000000+(d:Int))/(m:Int)<1000000000:=Int.ediv_lt_of_lt_mul (by omega) (by omega);have bX:0≤((rs:Int)*1000000000+(d:Int))/(m:Int):=Int.ediv_nonneg (by omega) (by omega);refine aw (ah [0,1,6,7,8] rfl ?_);refine ao (aE (ae (aa 1 rfl (gZ rfl rfl ⟨by omega,by omega⟩ (aa 2 rfl (aS ag rfl rfl rfl rfl rfl (qv _) (by rw[hj];exact dC hd) (by omega) (by omega) fun _=> ?_))))));refine dr ag rfl rfl rfl ⟨by omega,by omega⟩ (aF rfl rfl ⟨by omega,by omega⟩ (aa 1 rfl (ab [0,1,6,7,8] ?_)));refine ae (aa 4 rfl (lS rfl rfl (by omega) (by omega) ⟨by omega,by omega⟩ (dr ag rfl rfl rfl ⟨by omega,by omega⟩ ?_)));obtain⟨ti,aj,ak⟩:=oz;refine cT (.inl rfl) ag rfl rfl rfl (by omega) (by omega) (bC _ _ _) rfl (by rw[oD];omega) aj ak (fun _=>rfl) rfl rfl rfl fun _=> ?_;refine ab [0,1,6,7,8] ?_;refine aA rfl (aa 2 rfl (mT rfl rfl (by omega) (by omega) (aa 1 rfl (au (ah [0,1,6,7,8] rfl ?_)))));refine aA rfl (aa 1 rfl (cQ rfl rfl ⟨by omega,by omega⟩ (aa 1 rfl (au ?_))))
  have hq:(rs*1000000000+d)/m<1000000000:=by rw[Nat.div_lt_iff_lt_mul wI];omega
  refine⟨k,o.set k ((rs*1000000000+d)/m),(rs*1000000000+d)%m,by omega,ar,by rw[vy (y:=(rs*1000000000+d)/m) (by simp)];rw[hj],by omega,by simp[dX],eE.set (by rw[ck];omega),Nat.mod_lt _ wI,?_⟩;rw[set_drop (by omega),C8 hd,jC,jC,←hv];have:=Nat.div_add_mod (rs*1000000000+d) m
  simp only[ck,Nat.add_mul,Nat.mul_add,Nat.mul_assoc]
  rw[Nat.mul_comm m]at this
  omega
 ·
  have hb:k=0:=by simp at hb;omega
  subst hb
  simp only[List.drop_zero]at hv
  refine aU (ah [6,7] rfl ?_);refine ae (aa 1 rfl (aB rfl rfl (BF (AM _ _ o _ _ dX.symm (Nat.le_refl _)) eE (by omega)) ?_));intro v1 H4 hp;refine aa 3 rfl (ab [4,5] ?_);refine az ⟨.inr rfl,_,.tmp rfl (.tmp rfl (.nil)),?_⟩;refine⟨(Heap.bI _ hg).trans hp.le,v1,?_,?_⟩
  ·rw[(Kj hv yL).2];rfl
  ·rw[(Kj hv yL).1];exact hp.nat
end Go.aq
namespace Go.aq
open Go.Proofs Num
def agV(H:Heap)(v:Value)(H':Heap):Prop:=H'=H∧∃d:Nat,v = .int .u64 (d:Int)∧d≤999999999
theorem agW{H:Heap}{u v:Value}{x y:Nat}(hx:dt H u x)(hy:dt H v y)(Ln:2≤(al y).length)(qx:(al x).length≤(al y).length+1)(hm:((al y).length:Int)≤8796093022208):
 Fn Tryz.prog 117 #[u,v] H (agV H):=by
 obtain⟨A,c,rfl,hc,hr⟩:=hx
 obtain⟨A',c',rfl,jA,dS⟩:=hy
 have fY:=(fR x).lt
 have dO:=(fR y).lt
 obtain⟨k,hk⟩:∃k,(al y).length=k+2:=⟨(al y).length-2,by omega⟩
 have qw:(((al y).length:Int)-1).toNat=k+1:=by omega
 have tJ:(((al y).length:Int)-2).toNat=k:=by omega
 obtain⟨b1,dU⟩:∃z,(al y)[k+1]? = some z:=⟨_,List.getElem?_eq_getElem (by omega)⟩
 obtain⟨b0,gM⟩:∃z,(al y)[k]? = some z:=⟨_,List.getElem?_eq_getElem (by omega)⟩
 have agX:=dO.get dU
 have agY:=dO.get gM
 have am5:b1≠0:=(fR y).last b1 (by rw[List.getLast?_eq_getElem?,hk];exact dU)
 rw[ck]at agX agY;refine aY (args:=[_,_]) Tryz.func117 rfl rfl Tryz.ntmps117 rfl rfl fun w0=> ?_;refine ah [0,1] rfl ?_;refine ae (aa 1 rfl (ab [0,1] ?_));refine ae (aa 3 rfl (ab [0,1,5] ?_));refine ao (ae (aa 4 rfl (ab [0,1,5,15] ?_)));refine aD rfl (fun hb=> ?_) (fun hb=> ?_)
 ·
  skip
  refine ae (aa 1 rfl (ab [4] ?_));refine az ⟨.inr rfl,_,.tmp rfl (.nil),?_⟩;exact⟨rfl,0,rfl,by omega⟩
 ·
  have hb:(al y).length≤(al x).length:=by simpa using hb
  obtain⟨r1,pA⟩:∃z,(al x)[k+1]? = some z:=⟨_,List.getElem?_eq_getElem (by omega)⟩;obtain⟨r0,wy⟩:∃z,(al x)[k]? = some z:=⟨_,List.getElem?_eq_getElem (by omega)⟩;have Lo:=fY.get pA;have agZ:=fY.get wy;rw[ck]at Lo agZ;have mm:((r1:Int)*1000000000+(r0:Int))/((b1:Int)*1000000000+(b0:Int))<1000000000:=Int.ediv_lt_of_lt_mul (by omega) (by omega);have bX:0≤((r1:Int)*1000000000+(r0:Int))/((b1:Int)*1000000000+(b0:Int)):=Int.ediv_nonneg (by omega) (by omega);obtain⟨q,hq⟩:∃q:Nat,(q:Int)=((r1:Int)*1000000000+(r0:Int))/((b1:Int)*1000000000+(b0:Int)):=⟨_,Int.toNat_of_nonneg bX⟩;rw[←hq]at mm;refine aw (ah [0,1,5] rfl ?_);refine bN .bK [0,1,2,3,4,5,6,7,8,9,10,11,12,13,14] follows (by kernel_rfl) ?_;refine aa 2 rfl (cQ rfl rfl ⟨by omega,by omega⟩ (aS ag rfl rfl rfl rfl rfl (dS) (by rw[qw];exact dC dU) (by omega) (by omega) fun _=> ?_));refine dr ag rfl rfl rfl ⟨by omega,by omega⟩ (gZ rfl rfl ⟨by omega,by omega⟩ (aa 2 rfl (cQ rfl rfl ⟨by omega,by omega⟩ (aS ag rfl rfl rfl rfl rfl (dS) (by rw[tJ];exact dC gM) (by omega) (by omega) fun _=> ?_))));refine dr ag rfl rfl rfl ⟨by omega,by omega⟩ (aF rfl rfl ⟨by omega,by omega⟩ (aa 1 rfl (ab [0,5,6] ?_)))
  refine bN .bK [0,1,2,3,4,5,6,7,8,9,10,11,12,13,14] follows (by kernel_rfl) ?_;refine aa 2 rfl (cQ rfl rfl ⟨by omega,by omega⟩ (aS ag rfl rfl rfl rfl rfl (hr) (by rw[qw];exact dC pA) (by omega) (by omega) fun _=> ?_));refine dr ag rfl rfl rfl ⟨by omega,by omega⟩ (gZ rfl rfl ⟨by omega,by omega⟩ (aa 2 rfl (cQ rfl rfl ⟨by omega,by omega⟩ (aS ag rfl rfl rfl rfl rfl (hr) (by rw[tJ];exact dC wy) (by omega) (by omega) fun _=> ?_))));refine dr ag rfl rfl rfl ⟨by omega,by omega⟩ (aF rfl rfl ⟨by omega,by omega⟩ (aa 1 rfl (ab [0,5,6,7] ?_)));refine ao (ae (aa 4 rfl (ab [0,5,6,7,47] ?_)));refine aD rfl (fun hb=> ?_) (fun hb=> ?_)
  ·
   skip
   refine ae (aa 2 rfl (lS rfl rfl (by omega) (by omega) ⟨by rw[←hq];omega,by rw[←hq];omega⟩ ?_));rw[←hq];refine aa 1 rfl (ab [4] ?_);refine az ⟨.inr rfl,_,.tmp rfl (.nil),?_⟩;exact⟨rfl,q,rfl,by omega⟩
  have hb:(al x).length=(al y).length+1:=by simp at hb;omega
  obtain⟨rn,hrn⟩:∃z,(al x)[(al y).length]? = some z:=⟨_,List.getElem?_eq_getElem (by omega)⟩;refine aw (ah [0,5,6,7] rfl ?_);refine ae (aa 2 rfl (aS ag rfl rfl rfl rfl rfl (hr) (dC hrn) (by omega) (by omega) fun _=>(N5 Tryz.underlying74 Tryz.underlying180 rfl fun f1=>(N6 (.inr (.inl rfl)) rfl rfl fun f2=>(aa 1 rfl (N5 Tryz.underlying73 Tryz.underlying180 rfl fun f3=>(N6 (.inl rfl) rfl rfl fun f4=>(aa 1 rfl (ab [6,8] ?_)))))))));refine ae (aa 2 rfl (N5 Tryz.underlying73 Tryz.underlying180 rfl fun f5=>(N6 (.inr (.inr rfl)) rfl rfl fun f6=>(ado Tryz.underlying180 Tryz.underlying73 rfl fun f7 PJ=>(aa 1 rfl (ab [9] ?_))))));refine ae (aa 1 rfl (ac3 (v:=((f7:Int)+2)%18446744073709551616) rfl rfl rfl (U0 rfl rfl ?_)))
  generalize hmn:(if (999999999:Int)<((f7:Int)+2)%18446744073709551616 then(999999999:Int)else((f7:Int)+2)%18446744073709551616)=mn
  have am6:0≤mn∧mn≤999999999:=by rw[←hmn];split <;> omega
  obtain⟨q2,rfl⟩:∃q2:Nat,mn=(q2:Int):=⟨mn.toNat,by omega⟩;refine aa 1 rfl (ab [4] ?_);refine az ⟨.inr rfl,_,.tmp rfl (.nil),?_⟩;exact⟨rfl,q2,rfl,by omega⟩
end Go.aq
