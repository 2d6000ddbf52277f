/- Part 6 of the proof: Tab5, Tab6, Tab7, Eng13, Tab8, Ref1, Ref2, Ref3, Ref4. -/
import Derived.Test.YtdjoookebbbjkaaGreatA05
set_option linter.unusedVariables false
namespace Go.aq
open Go.Proofs Num Lp
def TL.pF(L:TL)(j:Nat):Nat:=L.plus.getD j 0
def TL.mZ(L:TL)(j:Nat):Int:=L.minus.getD j (-1)
def TL.mF(L:TL)(j:Nat):Option Nat:=if 0≤L.mZ j then some (L.mZ j).toNat else none
def TL.uF(L:TL)(i:Nat):Nat:=L.j9.getD i 0
def TL.sF(L:TL)(i:Nat):Rat:=fn L.jP i
structure TL.Ok(L:TL)(n m:Nat):Prop where
 Lf:L.plus.length=n
 Lg:L.minus.length=n
 PN:L.j9.length=m
 PO:L.jP.length=m
 pw:∀j,j<n→L.pF j<L.w
 mw:∀j,j<n→L.mZ j<L.w
 uw:∀i,i<m→L.uF i<L.w
 s1:∀i,i<m→aN (L.sF i)≤1
section
variable {L:TL} {n m:Nat}
theorem TL.Ok.p(h:L.Ok n m){j:Nat}(hj:j<n):L.plus[j]? = some (L.pF j):=by
 have:j<L.plus.length:=by rw[h.Lf];exact hj
 simp[TL.pF,List.getD,List.getElem?_eq_getElem this]
theorem TL.Ok.mi(h:L.Ok n m){j:Nat}(hj:j<n):L.minus[j]? = some (L.mZ j):=by
 have:j<L.minus.length:=by rw[h.Lg];exact hj
 simp[TL.mZ,List.getD,List.getElem?_eq_getElem this]
theorem TL.Ok.u(h:L.Ok n m){i:Nat}(hi:i<m):L.j9[i]? = some (L.uF i):=by
 have:i<L.j9.length:=by rw[h.PN];exact hi
 simp[TL.uF,List.getD,List.getElem?_eq_getElem this]
theorem TL.Ok.s(h:L.Ok n m){i:Nat}(hi:i<m):L.jP[i]? = some (L.sF i):=by
 have:i<L.jP.length:=by rw[h.PO];exact hi
 simp[TL.sF,fn,List.getD,List.getElem?_eq_getElem this]
end
theorem agd{α:Type}(l:List α)(k:Nat)(a b:α):(l.set k a).set k b=l.set k b:=by simp
theorem PQ{K:Heap}{xs vs:List Value}{l:List (Option Rat)}{k:Nat}{q:Rat}(h:bA (ic bS K) 3 xs l)(hk:k<l.length)(hv:bS K vs q):bA (ic bS K) 3 (aJ xs (k*3) vs) (l.set k (some q)):=h.set hk (show ic bS K vs (some q)from hv) hv.len
theorem Xd{K:Heap}{xs:List Value}{f:Nat→Rat}{n:Nat}(h:bA (ic bS K) 3 xs (fill (aK f n) n)):bA (bS K) 3 xs (aK f n):=DR (by rw[bB];exact h)
theorem Xe{H:Heap}{G:TG}{L:TL}{T:av}{n m N:Nat}{v:Value}{f:Nat→Rat}(h:dE H G L T)(hL:L.Ok n m)(hv:aQ bS 3 (rem H G.gs) v (aK f L.w))(hf:∀j,j<L.w→aN (f j)≤N)(hN:(N:Int)≤274877906944)(hw:(L.w:Int)≤1000000)(hn:(n:Int)≤1000000):
 Fn Tryz.prog 132 #[.pointer (some ⟨G.g,0,none⟩),v] H (D8 bV 3 G.gs H (aK (dL.vec L.pF L.mF f) n)):=by
 obtain⟨Av,cv,xv,rfl,ka,ny⟩:=hv.num
 rw[bB]
 have GJ:=h.self
 obtain⟨Ap,cp,xp,sw,jr,oS⟩:=GJ.plus.one
 obtain⟨Am,cm,xm,vG,kz,xC⟩:=GJ.minus.one
 rw[hL.Lf]at sw
 rw[hL.Lg]at vG
 obtain⟨l,hl⟩:∃l,l=dL.vec L.pF L.mF f:=⟨_,rfl⟩
 have cD:cell H ((⟨G.g,0,none⟩:Addr).add 2)=some (.slice Ap n cp):=by rw[←sw];exact h.cell rfl
 refine aZ (args:=[_,_]) Tryz.func132 rfl rfl Tryz.ntmps132 rfl rfl fun w0=> ?_;refine ah [0,1] rfl ?_;refine ae (aa 1 rfl (ab [0,1] ?_));refine ae (aa 2 rfl (aW ag rfl rfl rfl (aR ag rfl rfl rfl (cD) (aa 1 rfl (gP Tryz.underlying117 ff rfl rfl rfl (by omega) (by omega) (by omega) (by omega) ?_)))));intro z jd;rw[show ((n:Int)).toNat=n from by omega];have kA:fp G.gs H _ z (dd [.int .i64 0,.int .i64 0,.pointer none] (n*3)) (n*3) 121:=fp.new h.ne jd
 have ix:bA (ic bS (rem (ins H z ⟨dd [.int .i64 0,.int .i64 0,.pointer none] (n*3),n*3,121,true⟩) (z::G.gs))) 3 (dd [.int .i64 0,.int .i64 0,.pointer none] (n*3)) (fill (aK l n) 0):=by have:=BF (P:=bS) (H:=rem (ins H z ⟨dd [.int .i64 0,.int .i64 0,.pointer none] (n*3),n*3,121,true⟩) (z::G.gs)) (zs:=[.int .i64 0,.int .i64 0,.pointer none]) (sz:=3) (by rfl) (aK l n);rwa [bB]at this
 refine aa 1 rfl (ab [0,1,5] ?_);refine ao (ae (aa 3 rfl (ab [0,1,5,14,15] ?_)));refine aE (gn (fun(k:Nat)(xs:List Value)=>n-k) (fun(k:Nat)(xs:List Value)=>put (put (put (put (put (emp) 0 (.val (.pointer (some ⟨G.g,0,none⟩)))) 1 (.val (.slice Av L.w cv))) 5 (.val (.slice (some ⟨z,0,none⟩) n n))) 14 (.val (.int .i64 (n:Int)))) 15 (.val (.int .i64 (k:Int)))) (fun(k:Nat)(xs:List Value) H'=>fp G.gs H H' z xs (n*3) 121∧bA (ic bS (rem H' (z::G.gs))) 3 xs (fill (aK l n) k)∧k≤n) 0 _ (⟨kA,ix,Nat.zero_le _⟩) ar ?_);rintro k xs H2 ⟨eO,kU,fN⟩;have lN:=mX (l:=aK l n) (k:=k) (by rw[bB];exact fN);rw[bB]at lN;have cZ:=kU.len;rw[lN]at cZ;have jA:=eO.tab h;have kQ:=eO.hle;refine ae (aa 1 rfl (ab [0,1,5,14,15,16] ?_));refine ao (aD rfl (fun hb=> ?_) (fun hb=> ?_))
 ·
  have ga:k<n:=by simpa using hb
  obtain⟨up,GK,GL⟩:=oS k _ (hL.p ga);obtain⟨um,zo,GM⟩:=xC k _ (hL.mi ga)
  cases GL
  cases GM
  have yy:=hL.pw k ga;have Xf:=hL.mw k ga;obtain⟨n1,d1,b1,dt,fH⟩:=ny _ _ (dM yy);have iV:=hf _ yy;have age:=jr.le kQ;have amI:=kz.le kQ;have D9:=(ka.le eO.le).le (bD _ _)
  have Lh:cell H2 ((⟨G.g,0,none⟩:Addr).add 2)=some (.slice Ap n cp):=by rw[←sw];exact jA.cell 2 _ rfl
  refine az (ah [0,1,5,14,15] rfl ?_);refine ao (aE (ae (aa 2 rfl (ab [0,1,5,6,14,15] ?_))));refine ae (aa 5 rfl (aW ag rfl rfl rfl (aR ag rfl rfl rfl (Lh) (aa 1 rfl (aS ag rfl rfl rfl rfl rfl (age) (by rw[Int.toNat_natCast];exact GK) (by omega) (by omega) fun _=> ?_)))));refine cj (vs:=[.int .i64 n1,.int .i64 d1,.pointer b1]) ag rfl rfl rfl rfl D9 rfl (by decide) (by rw[Int.toNat_natCast];exact fH) (by omega) (by omega) fun _=> ?_;obtain⟨ti,aj,ak⟩:=cH;refine cV (.inl rfl) ag rfl rfl rfl (by omega) (by omega) (eO.aw) rfl (by show 0+n*3≤xs.length;omega) aj ak (fun _=>rfl) rfl rfl rfl fun _=> ?_;refine ab [0,1,5,6,14,15] ?_;have ke:fp G.gs H _ z (aJ xs (k*3) [.int .i64 n1,.int .i64 d1,.pointer b1]) (n*3) 121:=eO.set (oT (k:=k) (sz:=3))
  have xD:bA (ic bS (rem (ins H2 z {(⟨xs,n*3,121,true⟩:Ent)with xs:=aJ xs (0+k*3) [.int .i64 n1,.int .i64 d1,.pointer b1]}) (z::G.gs))) 3 (aJ xs (k*3) [.int .i64 n1,.int .i64 d1,.pointer b1]) ((fill (aK l n) k).set k (some (f (L.pF k)))):=by
   rw[cE _ (List.mem_cons_self ..)];exact PQ kU (by rw[lN];exact ga) (dt.le eO.le)
  generalize hH3:ins H2 z {(⟨xs,n*3,121,true⟩:Ent)with xs:=aJ xs (0+k*3) [.int .i64 n1,.int .i64 d1,.pointer b1]}=H3 at ke xD
  have agf:ins H2 z {(⟨xs,n*3,121,true⟩:Ent)with xs:=aJ xs (0+((k:Int)).toNat*3) [.int .i64 n1,.int .i64 d1,.pointer b1]}=H3:=hH3;rw[show ∀e:Ent,e = {(⟨xs,n*3,121,true⟩:Ent)with xs:=aJ xs (0+((k:Int)).toNat*3) [.int .i64 n1,.int .i64 d1,.pointer b1]}→ins H2 z e=H3 from fun e he=>by rw[he];exact agf]
  rotate_left
  ·rfl
  have OC:=ke.tab h;have Xg:=kz.le ke.hle;have agh:=(ka.le ke.le).le (bD _ _)
  have eF:cell H3 ((⟨G.g,0,none⟩:Addr).add 3)=some (.slice Am n cm):=by rw[←vG];exact OC.cell 3 _ rfl
  refine ae (aa 2 rfl (aW ag rfl rfl rfl (aR ag rfl rfl rfl (eF) (aa 1 rfl (aS ag rfl rfl rfl rfl rfl (Xg) (by rw[Int.toNat_natCast];exact zo) (by omega) (by omega) fun _=> ?_)))));refine aa 1 rfl (ab [0,1,5,6,14,15,38] ?_);refine aD rfl (fun hb=> ?_) (fun hb=> ?_)
  ·
   have hb:0≤L.mZ k:=by simpa using hb
   obtain⟨n2,d2,b2,gQ,eS⟩:=ny _ _ (dM (show (L.mZ k).toNat<L.w by omega));have jK:=hf (L.mZ k).toNat (by omega)
   have gT:∀(j:Nat)(u:Value),[.int .i64 n1,.int .i64 d1,.pointer b1][j]? = some u→(aJ xs (k*3) [.int .i64 n1,.int .i64 d1,.pointer b1])[k*3+j]? = some u:=fun j u hu=>by
    have hj:=(List.getElem?_eq_some_iff.1 hu).1
    simp only[List.length_cons,List.length_nil]at hj
    rw[O2 _ _ _ _ (by simp only[List.length_cons,List.length_nil];omega),if_pos (by simp only[List.length_cons,List.length_nil];omega),Nat.add_sub_cancel_left];exact hu
   refine eo .gB [0,1,2,3,4,5,6,7,8,9,10,11,12,13,14,15,16,17,18] follows (by kernel_rfl) ?_;refine aa 4 rfl (cj (vs:=[.int .i64 n1,.int .i64 d1,.pointer b1]) ag rfl rfl rfl rfl (dQ ke.aw) rfl (by decide) (by rw[Int.toNat_natCast];exact gT) (by omega) (by omega) fun _=> ?_);refine aa 3 rfl (aW ag rfl rfl rfl (aR ag rfl rfl rfl (eF) (aa 1 rfl (aS ag rfl rfl rfl rfl rfl (Xg) (by rw[Int.toNat_natCast];exact zo) (by omega) (by omega) fun _=> ?_))));refine cj (vs:=[.int .i64 n2,.int .i64 d2,.pointer b2]) ag rfl rfl rfl rfl agh rfl (by decide) eS (by omega) (by omega) fun _=>(aY rfl rfl (Fn.lr (ke.ne h.ne) (DQ (N:=N) (dt.le ke.le) (gQ.le ke.le) iV jK (by omega))) (fun _ _ h=>by first | exact h.le | exact h.1) ?_);rintro v4 H4 ⟨gg,cM,n4,d4,b4,rfl,ct⟩;have sx:=ke.kept gg
   have amJ:(aJ xs (k*3) [.int .i64 n1,.int .i64 d1,.pointer b1]).length=n*3:=by rw[FD];exact cZ
   obtain⟨ti,aj,ak⟩:=cH;refine cV (.inr rfl) ag rfl rfl rfl (by omega) (by omega) (sx.aw) rfl (by show 0+n*3≤(aJ xs (k*3) [.int .i64 n1,.int .i64 d1,.pointer b1]).length;omega) aj ak (fun _=>rfl) rfl rfl rfl fun _=> ?_;refine au (ah [0,1,5,14,15] rfl ?_);refine aA rfl (aF rfl rfl ⟨by omega,by omega⟩ (aa 1 rfl (au ?_)));exact⟨k+1,aJ (aJ xs (k*3) [.int .i64 n1,.int .i64 d1,.pointer b1]) (k*3) [.int .i64 n4,.int .i64 d4,.pointer b4],by omega,ar,sx.set oT,by rw[cE _ (List.mem_cons_self ..),←zi (a:=f (L.pF k)-f (L.mZ k).toNat) (by rw[dM ga,hl];unfold dL.vec TL.mF;rw[if_pos hb];rfl),←agd (fill (aK l n) k) k (some (f (L.pF k)))];exact PQ (xD.mono fun vs a=>ic.up jc _ _ vs a gg.le) (by rw[List.length_set,lN];exact ga) ct,by omega⟩
  ·
   have hb:¬0≤L.mZ k:=by simpa using hb
   refine az (ah [0,1,5,14,15] rfl ?_);refine aA rfl (aF rfl rfl ⟨by omega,by omega⟩ (aa 1 rfl (au ?_)));exact⟨k+1,aJ xs (k*3) [.int .i64 n1,.int .i64 d1,.pointer b1],by omega,ar,ke,by rw[←zi (a:=f (L.pF k)) (by rw[dM ga,hl];unfold dL.vec TL.mF;rw[if_neg hb];simp only[iq];rw[show f (L.pF k)-0=f (L.pF k) by grind])];exact xD,by omega⟩
 ·
  have hb:n≤k:=by simpa using hb
  obtain rfl:k=n:=by omega
  have lT:=eO.done;refine aX (ah [5] rfl ?_);refine ae (vr 1 ?_)
  refine aC rfl rfl (Fn.Le (lT.1.ne h.ne) (Wx (l:=aK l k) ⟨some ⟨z,0,none⟩,k,xs,by rw[bB],by rw[bB];exact Nat.le_refl _,eO.rd,(Xd kU).mono fun vs a=>jc _ _ vs a lT.2⟩ (fun q hq=>by
  obtain⟨j,hj,rfl⟩:=List.mem_map.1 hq;have hj:=List.mem_range.1 hj;rw[hl];have h1:=hf _ (hL.pw j hj);have h2:=hL.mw j hj
  unfold dL.vec TL.mF
  split
  ·
   have h3:=hf (L.mZ j).toNat (by omega);have h4:=rU (f (L.pF j)) (f (L.mZ j).toNat)
   simp only[iq];omega
  ·
   have h4:=rU (f (L.pF j)) 0;rw[Wu]at h4
   simp only[iq];omega) (by rw[bB];omega))) ?_
  rintro v9 H9 ⟨gw,eT,sy⟩;refine aa 1 rfl (ab [4] ?_);refine aB ⟨.inr rfl,_,.tmp rfl (.nil),?_⟩;exact⟨lT.1.trans gw,eO.hle.trans eT,by rw[←hl];exact sy⟩
end Go.aq
namespace Go.aq
open Go.Proofs Num Lp
def zp(T:av)(k j:Nat):Rat:=a7 k (fun i=>if T.B i=j then T.A i T.n else 0)
def BM(T:av)(s k j:Nat):Rat:=(if j=s then 1 else 0)-a7 k (fun i=>if T.B i=j then T.A i s else 0)
theorem agi{T:av}(hW:T.WF){k:Nat}(hk:k<T.m)(j:Nat):zp T (k+1) j=bZ (zp T k) (T.B k) (T.A k T.n) j:=by
 unfold zp bZ
 rw[gq]
 by_cases e:j=T.B k
 ·rw[if_pos e,if_pos e.symm,lM]
  ·grind
  ·intro i hi
   rw[if_neg (fun e'=>by have:=hW.inj (by omega) hk (e'.trans e);omega)]
 ·rw[if_neg e,if_neg (fun e'=>e e'.symm)];grind
theorem agj{T:av}{j:Nat}(hj:j<T.n):zp T T.m j=T.pt j:=by
 unfold zp av.pt
 rw[if_neg (by omega)]
theorem agk{T:av}(hW:T.WF){s k:Nat}(hs:∀i,i<T.m→T.B i≠s)(hk:k<T.m)(j:Nat):BM T s (k+1) j=bZ (BM T s k) (T.B k) (-(T.A k s)) j:=by
 unfold BM bZ
 rw[gq]
 by_cases e:j=T.B k
 ·rw[if_pos e,if_pos e.symm,lM,if_neg (fun e'=>hs k hk (by rw[←e,e']))]
  ·grind
  ·intro i hi
   rw[if_neg (fun e'=>by have:=hW.inj (by omega) hk (e'.trans e);omega)]
 ·rw[if_neg e]
  have e2:(if T.B k=j then T.A k s else 0)=0:=if_neg (fun e'=>e e'.symm)
  rw[e2];grind
theorem Xh{H:Heap}{G:TG}{L:TL}{T:av}{n m N:Nat}(h:dE H G L T)(hW:T.WF)(hL:L.Ok n m)(hz:∀j,j<L.w→aN (T.pt j)≤N)(hN:(N:Int)≤274877906944)(hw:(L.w:Int)≤1000000)(hn:(n:Int)≤1000000)(hm:(T.m:Int)≤1000000):
 Fn Tryz.prog 93 #[.pointer (some ⟨G.g,0,none⟩)] H (D8 bV 3 G.gs H (aK (dL.vec L.pF L.mF T.pt) n)):=by
 obtain⟨Ab,cb,du,_⟩:=h.self.bv;refine aZ (args:=[_]) Tryz.func93 rfl rfl Tryz.ntmps93 rfl rfl fun w0=> ?_;refine ah [0] rfl ?_;refine ae (aa 1 rfl (ab [0] ?_));refine ae (aa 2 rfl (aW ag rfl rfl rfl (aR ag rfl rfl rfl (h.iP) (aC rfl rfl (GF h.ne (by omega)) ?_))));rintro v1 H1 ⟨bx,z,xs,rfl,kA,ix⟩;have gi:=kA.tab h;refine aa 1 rfl (ab [0,3] ?_);refine ao (ae (aa 2 rfl (aW ag rfl rfl rfl (aR ag rfl rfl rfl (show cell H1 _=some (.slice Ab T.m cb)from by rw[←du];exact gi.cell 8 _ rfl) ?_))));refine aa 2 rfl (ab [0,3,14,15,16] ?_);refine aE (gn (fun(k:Nat)(xs:List Value)=>T.m-k) (fun(k:Nat)(xs:List Value)=>put (put (put (put (put (emp) 0 (.val (.pointer (some ⟨G.g,0,none⟩)))) 3 (.val (.slice (some ⟨z,0,none⟩) L.w L.w))) 14 (.val (.slice Ab T.m cb))) 15 (.val (.int .i64 (T.m:Int)))) 16 (.val (.int .i64 (k:Int)))) (fun(k:Nat)(xs:List Value) H'=>fp G.gs H H' z xs (L.w*3) 121∧bA (bS (rem H' (z::G.gs))) 3 xs (aK (zp T k) L.w)∧k≤T.m) 0 xs (⟨kA,by rw[ln (f:=zp T 0) (g:=fun _=>0) (fun j _=>rfl)];exact ix _,Nat.zero_le _⟩) ar ?_);rintro k xs H2 ⟨eO,kU,fN⟩;have jA:=eO.tab h;have cZ:=kU.len;rw[bB]at cZ
 refine ae (aa 1 rfl (ab [0,3,14,15,16,17] ?_));refine ao (aD rfl (fun hb=> ?_) (fun hb=> ?_))
 ·
  have iQ:k<T.m:=by simpa using hb
  obtain⟨PM,xB,gT⟩:=jA.rows;obtain⟨pk,qB,zc⟩:=gT k iQ;have GN:=hW.lt k iQ;rw[h.n]at GN;obtain⟨A3,c3,sA,BN⟩:=jA.bv;rw[du]at sA
  obtain⟨rfl,-,rfl⟩:Ab=A3∧T.m=T.m∧cb=c3:=by simpa using sA
  have iy:=jA.cell 6 _ rfl;obtain⟨xw,n1,d1,b1,Gx,dt,Gy⟩:=zc.rd (dM (show L.w<L.w+1 by omega));refine az (ah [0,3,14,15,16] rfl ?_);refine ao (aE (ae (aa 1 rfl (aS ag rfl rfl rfl rfl rfl (BN) (by rw[Int.toNat_natCast];exact gI iQ) (by omega) (by omega) fun _=> ?_))));refine aa 2 rfl (ab [0,3,4,5,14,15,16] ?_);refine eo .gB [0,1,2,3,4,5,6,7,8,9,10,11,12,13,14,15,16] follows (by kernel_rfl) ?_;refine aa 4 rfl (aW ag rfl rfl rfl (aR ag rfl rfl rfl (iy) (aa 1 rfl (aS ag rfl rfl rfl rfl rfl (xB) (by rw[Int.toNat_natCast];exact qB) (by omega) (by omega) fun _=> ?_))));refine aa 2 rfl (aW ag rfl rfl rfl (aR ag rfl rfl rfl (by have:=jA.cell 0 _ rfl;rwa [im]at this) ?_));refine cj (vs:=[.int .i64 n1,.int .i64 d1,.pointer b1]) ag rfl rfl rfl rfl Gx rfl (by decide) (by rw[Int.toNat_natCast];exact Gy) (by omega) (by omega) fun _=> ?_;obtain⟨ti,aj,ak⟩:=cH;refine cV (.inr rfl) ag rfl rfl rfl (by omega) (by omega) (eO.aw) rfl (by show 0+L.w*3≤xs.length;omega) aj ak (fun _=>rfl) rfl rfl rfl fun _=> ?_;refine au (ah [0,3,14,15,16] rfl ?_);refine aA rfl (aF rfl rfl ⟨by omega,by omega⟩ ?_)
  refine aa 1 rfl (au ?_);exact⟨k+1,aJ xs (T.B k*3) [.int .i64 n1,.int .i64 d1,.pointer b1],by omega,ar,eO.set (by rw[Int.toNat_natCast];exact oT),by rw[cE _ (List.mem_cons_self ..),ln (g:=bZ (zp T k) (T.B k) (T.A k T.n)) (fun j _=>agi hW iQ j),h.n];exact so kU GN dt,by omega⟩
 ·
  have hb:T.m≤k:=by simpa using hb
  obtain rfl:k=T.m:=by omega
  have lT:=eO.done;rw[ln (g:=T.pt) (fun j hj=>agj (by rw[h.n];exact hj))]at kU;refine aX (ah [0,3] rfl ?_);refine ae (aa 2 rfl (aC rfl rfl (Xe (h.kept lT.1) hL (v:= .slice (some ⟨z,0,none⟩) L.w L.w) (f:=T.pt) ⟨some ⟨z,0,none⟩,L.w,xs,by rw[bB],by rw[bB];exact Nat.le_refl _,eO.rd,kU.mono fun vs a=>jc _ _ vs a lT.2⟩ hz hN hw hn) ?_));rintro v9 H9 ⟨gw,eT,sy⟩;refine aa 1 rfl (ab [2] ?_);refine aB ⟨.inr rfl,_,.tmp rfl (.nil),?_⟩;exact⟨lT.1.trans gw,eO.hle.trans eT,sy⟩
theorem agl{H:Heap}{G:TG}{L:TL}{T:av}{n m N s:Nat}(h:dE H G L T)(hW:T.WF)(hL:L.Ok n m)(hs:s<L.w)(Ea:∀i,i<T.m→T.B i≠s)(cP:∀i,i<T.m→aN (T.A i s)≤N)(hz:∀j,j<L.w→aN (T.dir s j)≤N)(hN:(N:Int)≤274877906944)(hw:(L.w:Int)≤1000000)(hn:(n:Int)≤1000000)(hm:(T.m:Int)≤1000000):
 Fn Tryz.prog 94 #[.pointer (some ⟨G.g,0,none⟩),.int .i64 (s:Int)] H (D8 bV 3 G.gs H (aK (dL.vec L.pF L.mF (T.dir s)) n)):=by
 obtain⟨Ab,cb,du,_⟩:=h.self.bv;refine aZ (args:=[_,_]) Tryz.func94 rfl rfl Tryz.ntmps94 rfl rfl fun w0=> ?_;refine ah [0,1] rfl ?_;refine ae (aa 1 rfl (ab [0,1] ?_));refine ae (aa 2 rfl (aW ag rfl rfl rfl (aR ag rfl rfl rfl (h.iP) (aC rfl rfl (GF h.ne (by omega)) ?_))));rintro v1 H1 ⟨bx,z,xs,rfl,kA,ix⟩;have agm:=(ix H).len;rw[bB]at agm;refine aa 1 rfl (ab [0,1,5] ?_);refine ae (aa 2 rfl (aC rfl rfl (xa) ?_));rintro v3 H3 ⟨e3,rfl⟩;rw[e3];obtain⟨ti,aj,ak⟩:=cH;refine cV (.inl rfl) ag rfl rfl rfl (by omega) (by omega) (kA.aw) rfl (by show 0+L.w*3≤xs.length;omega) aj ak (fun _=>rfl) rfl rfl rfl fun _=> ?_;refine ab [0,1,5] ?_;have Eb:fp G.gs H (ins H1 z {(⟨xs,L.w*3,121,true⟩:Ent)with xs:=aJ xs (0+((s:Int)).toNat*3) [.int .i64 1,.int .i64 1,.pointer none]}) z (aJ xs (s*3) [.int .i64 1,.int .i64 1,.pointer none]) (L.w*3) 121:=kA.set (by rw[Int.toNat_natCast];exact oT);have gi:=Eb.tab h;refine ao (ae (aa 2 rfl (aW ag rfl rfl rfl (aR ag rfl rfl rfl (show cell _ _=some (.slice Ab T.m cb)from by rw[←du];exact gi.cell 8 _ rfl) ?_))));refine aa 2 rfl (ab [0,1,5,20,21,22] ?_)
 refine aE (gn (fun(k:Nat)(xs:List Value)=>T.m-k) (fun(k:Nat)(xs:List Value)=>put (put (put (put (put (put (emp) 0 (.val (.pointer (some ⟨G.g,0,none⟩)))) 1 (.val (.int .i64 (s:Int)))) 5 (.val (.slice (some ⟨z,0,none⟩) L.w L.w))) 20 (.val (.slice Ab T.m cb))) 21 (.val (.int .i64 (T.m:Int)))) 22 (.val (.int .i64 (k:Int)))) (fun(k:Nat)(xs:List Value) H'=>fp G.gs H H' z xs (L.w*3) 121∧bA (bS (rem H' (z::G.gs))) 3 xs (aK (BM T s k) L.w)∧k≤T.m) 0 (aJ xs (s*3) [.int .i64 1,.int .i64 1,.pointer none]) (⟨Eb,by rw[ln (g:=bZ (fun _=>0) s 1) (fun j _=>by unfold BM bZ;rw[DL];split <;> grind)];exact so (ix _) hs (w9 _ (n:=1) (by decide) (by decide)),Nat.zero_le _⟩) ar ?_);rintro k xs H2 ⟨eO,kU,fN⟩;have jA:=eO.tab h;have cZ:=kU.len;rw[bB]at cZ;refine ae (aa 1 rfl (ab [0,1,5,20,21,22,23] ?_));refine ao (aD rfl (fun hb=> ?_) (fun hb=> ?_))
 ·
  have iQ:k<T.m:=by simpa using hb
  obtain⟨PM,xB,gT⟩:=jA.rows;obtain⟨pk,qB,zc⟩:=gT k iQ;have GN:=hW.lt k iQ;rw[h.n]at GN;obtain⟨A3,c3,sA,BN⟩:=jA.bv;rw[du]at sA
  obtain⟨rfl,-,rfl⟩:Ab=A3∧T.m=T.m∧cb=c3:=by simpa using sA
  have iy:=jA.cell 6 _ rfl;obtain⟨xw,n1,d1,b1,Gx,dt,Gy⟩:=zc.rd (dM (show s<L.w+1 by omega));have PI:=cP k iQ;refine az (ah [0,1,5,20,21,22] rfl ?_);refine ao (aE (ae (aa 1 rfl (aS ag rfl rfl rfl rfl rfl (BN) (by rw[Int.toNat_natCast];exact gI iQ) (by omega) (by omega) fun _=> ?_))));refine aa 2 rfl (ab [0,1,5,6,7,20,21,22] ?_);refine aA rfl (aa 4 rfl (aW ag rfl rfl rfl (aR ag rfl rfl rfl (iy) (aa 1 rfl (aS ag rfl rfl rfl rfl rfl (xB) (by rw[Int.toNat_natCast];exact qB) (by omega) (by omega) fun _=> ?_)))));refine aa 1 rfl (cj (vs:=[.int .i64 n1,.int .i64 d1,.pointer b1]) ag rfl rfl rfl rfl Gx rfl (by decide) (by rw[Int.toNat_natCast];exact Gy) (by omega) (by omega) fun _=> ?_);refine aC rfl rfl (Fn.lr (eO.ne h.ne) (DK dt (by omega))) ?_;rintro v4 H4 ⟨gg,cM,n4,d4,b4,rfl,ct⟩;have sx:=eO.kept gg;obtain⟨ti,aj,ak⟩:=cH;refine cV (.inl rfl) ag rfl rfl rfl (by omega) (by omega) (sx.aw) rfl (by show 0+L.w*3≤xs.length;omega) aj ak (fun _=>rfl) rfl rfl rfl fun _=> ?_;refine au (ah [0,1,5,20,21,22] rfl ?_);refine aA rfl (aF rfl rfl ⟨by omega,by omega⟩ (vr 1 ?_))
  refine au ?_;exact⟨k+1,aJ xs (T.B k*3) [.int .i64 n4,.int .i64 d4,.pointer b4],by omega,ar,sx.set (by rw[Int.toNat_natCast];exact oT),by rw[cE _ (List.mem_cons_self ..),ln (g:=bZ (BM T s k) (T.B k) (-(T.A k s))) (fun j _=>agk hW Ea iQ j)];exact so (kU.mono fun vs a=>jc _ _ vs a gg.le) GN ct,by omega⟩
 ·
  have hb:T.m≤k:=by simpa using hb
  obtain rfl:k=T.m:=by omega
  have lT:=eO.done;rw[ln (f:=BM T s T.m) (g:=T.dir s) (fun j hj=>rfl)]at kU;refine aX (ah [0,5] rfl ?_);refine ae (aa 2 rfl (aC rfl rfl (Xe (h.kept lT.1) hL (v:= .slice (some ⟨z,0,none⟩) L.w L.w) (f:=T.dir s) ⟨some ⟨z,0,none⟩,L.w,xs,by rw[bB],by rw[bB];exact Nat.le_refl _,eO.rd,kU.mono fun vs a=>jc _ _ vs a lT.2⟩ hz hN hw hn) ?_));rintro v9 H9 ⟨gw,eT,sy⟩;refine aa 1 rfl (ab [4] ?_);refine aB ⟨.inr rfl,_,.tmp rfl (.nil),?_⟩;exact⟨lT.1.trans gw,eO.hle.trans eT,sy⟩
theorem Xi{H:Heap}{G:TG}{L:TL}{T:av}{n m N:Nat}{v:Value}{f:Nat→Rat}(h:dE H G L T)(hc:iO H G L T)(hL:L.Ok n m)(hv:aQ bS 3 (rem H G.gs) v (aK f L.w))(hf:∀j,j<L.w→aN (f j)≤N)(Li:∀j,j<L.w→aN (T.c j)≤N)(hN:(N:Int)≤274877906944)(hw:(L.w:Int)≤1000000)(hm:(m:Int)≤1000000):
 Fn Tryz.prog 88 #[.pointer (some ⟨G.g,0,none⟩),v] H (D8 bV 3 G.gs H (aK (fun i=>L.sF i*(f (L.uF i)-T.c (L.uF i))) m)):=by
 obtain⟨Av,cv,xv,rfl,ka,ny⟩:=hv.num
 rw[bB]
 have GJ:=h.self
 obtain⟨Au,cu,xu,GO,hru,hxu⟩:=GJ.j9.one
 obtain⟨As,cs,xs5,wI,yU,yJ⟩:=GJ.jP.num
 rw[hL.PN]at GO
 rw[hL.PO]at wI
 obtain⟨l,hl⟩:∃l,l=(fun i=>L.sF i*(f (L.uF i)-T.c (L.uF i))):=⟨_,rfl⟩
 have D7:∀i,i<m→aN (l i)≤2*N+2:=fun i hi=>by
  have h1:=hf _ (hL.uw i hi)
  have h2:=Li _ (hL.uw i hi)
  have h3:=hL.s1 i hi
  have h4:=rU (f (L.uF i)) (T.c (L.uF i))
  have h5:=vx (L.sF i) (f (L.uF i)-T.c (L.uF i))
  rw[hl];show aN (L.sF i*(f (L.uF i)-T.c (L.uF i)))≤_
  omega
 have cM:cell H ((⟨G.g,0,none⟩:Addr).add 4)=some (.slice Au m cu):=by rw[←GO];exact h.cell rfl
 obtain⟨gc,cc,D3,bm,BK⟩:=id hc
 have kB:gc∈G.gs:=TG.zm (by rw[D3];exact List.mem_singleton.2 rfl);refine aZ (args:=[_,_]) Tryz.func88 rfl rfl Tryz.ntmps88 rfl rfl fun w0=> ?_;refine ah [0,1] rfl ?_;refine ae (aa 1 rfl (ab [0,1] ?_));refine ae (aa 2 rfl (aW ag rfl rfl rfl (aR ag rfl rfl rfl (cM) (aa 1 rfl (gP Tryz.underlying117 ff rfl rfl rfl (by omega) (by omega) (by omega) (by omega) ?_)))));intro z jd;rw[show ((m:Int)).toNat=m from by omega];have kA:fp G.gs H _ z (dd [.int .i64 0,.int .i64 0,.pointer none] (m*3)) (m*3) 121:=fp.new h.ne jd
 have ix:bA (ic bS (rem (ins H z ⟨dd [.int .i64 0,.int .i64 0,.pointer none] (m*3),m*3,121,true⟩) (z::G.gs))) 3 (dd [.int .i64 0,.int .i64 0,.pointer none] (m*3)) (fill (aK l m) 0):=by have:=BF (P:=bS) (H:=rem (ins H z ⟨dd [.int .i64 0,.int .i64 0,.pointer none] (m*3),m*3,121,true⟩) (z::G.gs)) (zs:=[.int .i64 0,.int .i64 0,.pointer none]) (sz:=3) (by rfl) (aK l m);rwa [bB]at this
 have gi:=kA.tab h;refine aa 1 rfl (ab [0,1,5] ?_);refine ao (ae (aa 2 rfl (aW ag rfl rfl rfl (aR ag rfl rfl rfl (show cell _ _=some (.slice Au m cu)from by rw[←GO];exact gi.cell 4 _ rfl) ?_))));refine aa 2 rfl (ab [0,1,5,17,18,19] ?_);refine aE (gn (fun(k:Nat)(xs:List Value)=>m-k) (fun(k:Nat)(xs:List Value)=>put (put (put (put (put (put (emp) 0 (.val (.pointer (some ⟨G.g,0,none⟩)))) 1 (.val (.slice Av L.w cv))) 5 (.val (.slice (some ⟨z,0,none⟩) m m))) 17 (.val (.slice Au m cu))) 18 (.val (.int .i64 (m:Int)))) 19 (.val (.int .i64 (k:Int)))) (fun(k:Nat)(xs:List Value) H'=>fp G.gs H H' z xs (m*3) 121∧bA (ic bS (rem H' (z::G.gs))) 3 xs (fill (aK l m) k)∧k≤m) 0 _ (⟨kA,ix,Nat.zero_le _⟩) ar ?_);rintro k xs H2 ⟨eO,kU,fN⟩;have lN:=mX (l:=aK l m) (k:=k) (by rw[bB];exact fN);rw[bB]at lN;have cZ:=kU.len;rw[lN]at cZ;have jA:=eO.tab h;have kQ:=eO.hle;refine ae (aa 1 rfl (ab [0,1,5,17,18,19,20] ?_));refine ao (aD rfl (fun hb=> ?_) (fun hb=> ?_))
 ·
  have ga:k<m:=by simpa using hb
  obtain⟨uu,huu,agn⟩:=hxu k _ (hL.u ga)
  cases agn
  have mA:=hL.uw k ga;obtain⟨n1,d1,b1,dt,fH⟩:=ny _ _ (dM mA);obtain⟨n2,d2,b2,gQ,eS⟩:=yJ k _ (hL.s ga);obtain⟨xc,n3,d3,b3,nK,jN,gT⟩:=(BK.le eO.le (eO.same gc kB)).rd (dM (show L.uF k<L.w+1 by omega));have iV:=hf _ mA;have yD:=Li _ mA;have jK:=hL.s1 k ga;have D9:=(ka.le eO.le).le (bD _ _);have ago:=(yU.le eO.le).le (bD _ _);have agp:=hru.le kQ
  have eI:cell H2 ((⟨G.g,0,none⟩:Addr).add 5)=some (.slice As m cs):=by rw[←wI];exact jA.cell 5 _ rfl
  have kT:cell H2 ((⟨G.g,0,none⟩:Addr).add 7)=some (.slice (some ⟨gc,0,none⟩) (L.w+1) cc):=by rw[←bm];exact jA.cell 7 _ rfl
  refine az (ah [0,1,5,17,18,19] rfl ?_);refine ao (aE (ae (aa 1 rfl (aS ag rfl rfl rfl rfl rfl (agp) (by rw[Int.toNat_natCast];exact huu) (by omega) (by omega) fun _=> ?_))));refine aa 2 rfl (ab [0,1,5,6,7,17,18,19] ?_);refine eo .gB [0,1,2,3,4,5,6,7,8,9,10,11,12,13,14,15,16,17,18,19,20,21,22,23] follows (by kernel_rfl) ?_;refine aa 4 rfl (aW ag rfl rfl rfl (aR ag rfl rfl rfl (eI) (aa 1 rfl (cj (vs:=[.int .i64 n2,.int .i64 d2,.pointer b2]) ag rfl rfl rfl rfl ago rfl (by decide) (by rw[Int.toNat_natCast];exact eS) (by omega) (by omega) fun _=> ?_))));refine aa 2 rfl (cj (vs:=[.int .i64 n1,.int .i64 d1,.pointer b1]) ag rfl rfl rfl rfl D9 rfl (by decide) (by rw[Int.toNat_natCast];exact fH) (by omega) (by omega) fun _=> ?_);refine aa 2 rfl (aW ag rfl rfl rfl (aR ag rfl rfl rfl (kT) (aa 1 rfl (cj (vs:=[.int .i64 n3,.int .i64 d3,.pointer b3]) ag rfl rfl rfl rfl nK rfl (by decide) (by rw[Int.toNat_natCast];exact gT) (by omega) (by omega) fun _=> ?_))));refine aY rfl rfl (Fn.lr (eO.ne h.ne) (DQ (N:=N) (dt.le eO.le) jN iV yD (by omega))) (fun _ _ h=>by first | exact h.le | exact h.1) ?_
  rintro v4 H4 ⟨gg,amK,n4,d4,b4,rfl,ct⟩;have sx:=eO.kept gg;have zq:=rU (f (L.uF k)) (T.c (L.uF k));refine aY rfl rfl (Fn.lr (sx.ne h.ne) (Gq (N:=2*N+2) (gQ.le sx.le) ct (by omega) (by omega) (by omega))) (fun _ _ h=>by first | exact h.le | exact h.1) ?_;rintro v5 H5 ⟨mu,amL,n5,d5,b5,rfl,dZ⟩;have sB:=sx.kept mu;obtain⟨ti,aj,ak⟩:=cH;refine cV (.inr rfl) ag rfl rfl rfl (by omega) (by omega) (sB.aw) rfl (by show 0+m*3≤xs.length;omega) aj ak (fun _=>rfl) rfl rfl rfl fun _=> ?_;refine au (ah [0,1,5,17,18,19] rfl ?_);refine aA rfl (aF rfl rfl ⟨by omega,by omega⟩ (aa 1 rfl (au ?_)));exact⟨k+1,aJ xs (k*3) [.int .i64 n5,.int .i64 d5,.pointer b5],by omega,ar,sB.set oT,by rw[cE _ (List.mem_cons_self ..),←zi (a:=L.sF k*(f (L.uF k)-T.c (L.uF k))) (by rw[dM ga,hl])];exact PQ (kU.mono fun vs a=>ic.up jc _ _ vs a (gg.le.trans mu.le)) (by rw[lN];exact ga) dZ,by omega⟩
 ·
  have hb:m≤k:=by simpa using hb
  obtain rfl:k=m:=by omega
  have lT:=eO.done;refine aX (ah [5] rfl ?_);refine ae (vr 1 ?_)
  refine aC rfl rfl (Fn.Le (lT.1.ne h.ne) (Wx (l:=aK l k) ⟨some ⟨z,0,none⟩,k,xs,by rw[bB],by rw[bB];exact Nat.le_refl _,eO.rd,(Xd kU).mono fun vs a=>jc _ _ vs a lT.2⟩ (fun q hq=>by
  obtain⟨j,hj,rfl⟩:=List.mem_map.1 hq;have:=D7 j (List.mem_range.1 hj)
  omega) (by rw[bB];omega))) ?_
  rintro v9 H9 ⟨gw,eT,sy⟩;refine aa 1 rfl (ab [4] ?_);refine aB ⟨.inr rfl,_,.tmp rfl (.nil),?_⟩;exact⟨lT.1.trans gw,eO.hle.trans eT,by rw[←hl];exact sy⟩
end Go.aq
namespace Go.aq
open Go.Proofs Num Lp
def gK(T:av)(f:Nat→Rat)(k j:Nat):Rat:=(if j=T.n then 0 else f j)-a7 k (fun i=>f (T.B i)*T.A i j)
theorem agq(T:av)(f:Nat→Rat)(k j:Nat):gK T f (k+1) j=gK T f k j-f (T.B k)*T.A k j:=by
 unfold gK;rw[gq];grind
theorem xE(f:Nat→Rat)(n:Nat):aK f (n+1)=aK f n ++ [f n]:=by
 unfold aK;rw[List.range_succ,List.map_append];rfl
theorem agr(f:Nat→Rat)(n:Nat):aK f n ++ [0]=aK (fun j=>if j=n then 0 else f j) (n+1):=by
 rw[xE,ln (f:=fun j=>if j=n then 0 else f j) (g:=f) (fun j hj=>by show (if j=n then 0 else f j)=f j;rw[if_neg (by omega)]),if_pos rfl]
theorem ags{α:Type}{P:List Value→α→Prop}{sz:Nat}{xs:List Value}{l:List α}(h:bA P sz xs l)(hp:0<sz∧∀vs a,P vs a→∀u,u∈vs→u.oneCell'=true):∀u,u∈xs→u.oneCell'=true:=fun u hu=>by
 obtain⟨i,hi⟩:=List.getElem?_of_mem hu
 have bX:=(List.getElem?_eq_some_iff.1 hi).1
 rw[h.len]at bX
 have he:i/sz<l.length:=Nat.div_lt_of_lt_mul (by rw[Nat.mul_comm];exact bX)
 have hq:=h.at_ (i/sz) _ (List.getElem?_eq_getElem he)
 refine hp.2 _ _ hq u ?_
 have:(fZ xs (i/sz) sz)[i%sz]? = some u:=by
  unfold fZ
  rw[List.getElem?_take,if_pos (Nat.mod_lt _ hp.1),List.getElem?_drop,Nat.div_add_mod'];exact hi
 exact List.mem_of_getElem? this
theorem agt{K:Heap}:0<3∧∀vs a,bS K vs a→∀u,u∈vs→u.oneCell'=true:=⟨by decide,fun vs a h u hu=>by
 obtain⟨n,d,b,rfl⟩:=h.cells
 simp only[List.mem_cons,List.not_mem_nil,or_false]at hu
 rcases hu with rfl | rfl | rfl <;> rfl⟩
def TG.eU(G:TG)(v:Value)(gc:Nat):TG:={G with cv:=v,cb:=[gc]}
theorem dE.agu{H:Heap}{G:TG}{L:TL}{T:av}(h:dE H G L T){H3:Heap}{v:Value}{gc:Nat}{e:Ent}(kB:H gc=none)(hle:Heap.le (rem H G.gs) (rem (ins H3 G.g e) (G.eU v gc).gs))(hs:∀q,q∈G.gs→H3 q=H q)(h3:H3 gc≠none)(he:e=⟨(G.eU v gc).cells L.w L.u T.m,9,127,true⟩):
  dE (ins H3 G.g e) (G.eU v gc) L T:=by
 have bo:∀q,q∈G.gs→q≠gc:=fun q hq e=>h.ne q hq (by rw[e];exact kB)
 have Gs:G.g≠gc:=bo _ G.sj
 have qz:∀q,q∈G.gs→q≠G.g→ins H3 G.g e q=H q:=fun q hq hn=>by rw[bg _ _ hn];exact hs q hq
 refine⟨h.n,h.uw,by show ins H3 G.g e G.g=_;rw[bn,he],?_,h.iu,?_,fun i p hp=> ?_,?_,h.plus.le my hle,h.minus.le kS hle,h.j9.le my hle,h.jP.le jc hle,fun q hq=> ?_⟩
 ·have dV:=h.nd
  unfold TG.gs at dV⊢
  show (G.g::([gc]++(G.bb++G.rg.map (·.1)))).Nodup
  rw[List.nodup_cons,List.nodup_append]at dV
  have lj:∀q,q∈G.bb++G.rg.map (·.1)→q∈G.gs:=fun q hq=>List.mem_cons_of_mem _ (List.mem_append_right _ hq)
  rw[List.nodup_cons,List.nodup_append]
  refine⟨fun hm=> ?_,(by simp),dV.2.2.1,fun a ha b hb=> ?_⟩
  ·rcases List.mem_append.1 hm with hm | hm
   ·exact Gs (List.mem_singleton.1 hm)
   ·exact dV.1 (List.mem_append_right _ hm)
  ·rw[List.mem_singleton]at ha
   rw[ha];exact fun e=>bo b (lj b hb) e.symm
 ·obtain⟨xs,h1,h2⟩:=h.rows
  exact⟨xs,h1.le hle,h2⟩
 ·have yK:G.rg[i]? = some p:=hp
  exact(h.row i p yK).le hle (qz _ (TG.gJ yK) (fun e=>TG.BH h.nd (.inr (.inr ⟨i,p,yK,rfl⟩)) e.symm))
 ·rcases h.basis with h1 | ⟨gb,cb,sz,h1,h2,h4⟩
  ·exact .inl h1
  ·have hm:gb∈G.bb:=by rw[h1];exact List.mem_singleton.2 rfl
   exact .inr ⟨gb,cb,sz,h1,h2,by rw[qz _ (TG.mz hm) (fun e=>TG.BH h.nd (.inr (.inl hm)) e.symm)];exact h4⟩
 ·have:q=gc:=List.mem_singleton.1 hq
  rw[this,bg _ _ (Ne.symm Gs)];exact h3
theorem TG.agv{G:TG}{v:Value}{gc q:Nat}(h:q∈(G.eU v gc).gs):q=gc∨q∈G.gs:=by
 unfold TG.gs at h
 rcases List.mem_cons.1 h with h | h
 ·exact .inr (by rw[h];exact G.sj)
 ·rcases List.mem_append.1 h with h | h
  ·exact .inl (List.mem_singleton.1 h)
  ·exact .inr (List.mem_cons_of_mem _ (List.mem_append_right _ h))
theorem agw{H H3:Heap}{G:TG}{v:Value}{gc:Nat}{e:Ent}(kB:H gc=none)(hle:Heap.le (rem H G.gs) (rem H3 G.gs)):Heap.le (rem H G.gs) (rem (ins H3 G.g e) (G.eU v gc).gs):=fun q en hq=>by
 have hm:¬q∈G.gs:=fun hm=>by rw[rem_in hm]at hq;cases hq
 have hqc:q≠gc:=fun e=>by rw[bL hm,e,kB]at hq;cases hq
 obtain⟨e',h1,h2⟩:=hle q en hq
 refine⟨e',?_,h2⟩
 rw[bL (fun h=>by rcases TG.agv h with h | h;exact hqc h;exact hm h),bg _ _ (fun e=>hm (by rw[e];exact G.sj))]
 rwa [bL hm]at h1
theorem Xj{H:Heap}{G:TG}{L:TL}{T:av}{N:Nat}{v:Value}{f:Nat→Rat}(h:dE H G L T)(hv:aQ bS 3 (rem H G.gs) v (aK f L.w))(hB:∀i,i<T.m→T.B i<L.w)(hN:(N:Int)≤549755813888)(hw:(L.w:Int)≤1000000)(hm:(T.m:Int)≤1000000)
 (hf:∀j,j<L.w→aN (f j)≤N) (hA:∀i,i<T.m→∀j,j≤L.w→aN (T.A i j)≤N) (hp:∀k,k≤T.m→∀j,j≤L.w→aN (gK T f k j)≤N):
 Fn Tryz.prog 83 #[.pointer (some ⟨G.g,0,none⟩),v] H (fun _ H'=>∃cv gc,H gc=none∧dE H' (G.eU cv gc) L {T with c:=gK T f T.m}∧iO H' (G.eU cv gc) L {T with c:=gK T f T.m}∧Heap.le (rem H G.gs) (rem H' (G.eU cv gc).gs)):=by
 obtain⟨Av,cv0,xv,rfl,agx,ka,Lj⟩:=hv
 rw[bB]at agx
 rw[bB]
 have Xk:=Lj.len
 rw[bB]at Xk
 have PH:=h.n;refine aZ (args:=[_,_]) Tryz.func83 rfl rfl Tryz.ntmps83 rfl rfl fun w0=> ?_;refine ah [0,1] rfl ?_;refine ae (aa 2 rfl (dW Tryz.underlying117 ff rfl rfl (kL _ 121 3) (ka.le (bD _ _)) (Xk) (ags Lj agt) (by omega) (by omega) ?_));intro v1 H1 Ec;rw[List.nil_append,Nat.zero_add]at Ec;obtain⟨dY,qq⟩:=Ec.rem (gs:=G.gs) h.ne (fun q _ e=>by cases e);have amM:=dY.own;refine aC rfl rfl (xa) ?_;rintro v2 H2 ⟨e2,rfl⟩;rw[e2];refine cI Tryz.underlying117 ff rfl rfl rfl rfl rfl rfl rfl ?_;intro gz GP;have PR:¬gz∈G.gs:=fun hm=>h.ne gz hm (by rw[←qq gz hm];exact GP)
 have nF:∀q,q∈G.gs→ins H1 gz (whole (dS [N3 0 1 none]) 121) q=H q:=fun q hq=>by rw[bg _ _ (fun e=>PR (by rw[←e];exact hq))];exact qq q hq
 refine dW Tryz.underlying117 ff rfl rfl (Ec.own.ins _ GP) (ea _ _ _ _ _ _) (rfl) (by decide) (by omega) (by omega) ?_;intro v3 H3 PS
 obtain⟨gG,GQ⟩:=PS.rem (gs:=G.gs) (fun q hq=>by rw[nF q hq];exact h.ne q hq) (fun q hq e=>by
  rcases Ec.at_ with h9 | ⟨g9,h9,gE⟩
  ·rw[h9]at e;cases e
  ·rw[h9]at e;cases e;exact h.ne _ hq gE)
 obtain⟨gc,cc,rfl,Xl,Lk⟩:∃gc cc,v3 = .slice (some ⟨gc,0,none⟩) (L.w+1) cc∧H3 gc=some ⟨xv++dS [N3 0 1 none],cc*3,121,true⟩∧H gc=none:=by
  rcases PS.own.2 with h9 | ⟨g9,c9,h9,gE,_⟩
  ·omega
  ·
   refine⟨g9,c9,h9,gE,?_⟩
   rcases PS.at_ with gZ | ⟨g11,gZ,AV⟩
   ·
    rw[h9]at gZ
    rcases Ec.at_ with nM | ⟨g13,nM,Ed⟩
    ·rw[nM]at gZ;cases gZ
    ·rw[nM]at gZ;cases gZ;exact Ed
   rw[h9]at gZ
   cases gZ
   have zr:=(Bh AV).2
   cases hh:H g9 with
   | none=>rfl
   | some en=>(obtain⟨e',Xm,_⟩:=Ec.le g9 en hh;rw[zr]at Xm;cases Xm)
 have Xn:∀q,q∈G.gs→H3 q=H q:=fun q hq=>(GQ q hq).trans (nF q hq);have gH:Heap.le (rem H G.gs) (rem H3 G.gs):=(dY.le.trans (by rw[vw _ PR];exact Heap.bG _ (by rw[bL PR];exact GP))).trans gG.le
 have agy:H3 G.g=some ⟨G.cells L.w L.u T.m,9,127,true⟩:=by rw[Xn _ G.sj];exact h.st
 refine aa 1 rfl (aW ag rfl rfl rfl ?_);obtain⟨ti,aj,ak⟩:=FR;refine j6 (g:=G.g) (o:=7) (.inl rfl) rfl agy rfl (by show 7+1≤9;omega) aj ak rfl rfl rfl rfl ?_;have ku:=agw (v:= .slice (some ⟨gc,0,none⟩) (L.w+1) cc) (e:={(⟨G.cells L.w L.u T.m,9,127,true⟩:Ent)with xs:=aJ (G.cells L.w L.u T.m) 7 [.slice (some ⟨gc,0,none⟩) (L.w+1) cc]}) Lk gH;have h4:=h.agu (v:= .slice (some ⟨gc,0,none⟩) (L.w+1) cc) Lk ku Xn (by rw[Xl];simp) rfl;have Gs:gc≠G.g:=fun e=>h.ne _ G.sj (by rw[←e];exact Lk)
 have Xo:ins H3 G.g {(⟨G.cells L.w L.u T.m,9,127,true⟩:Ent)with xs:=aJ (G.cells L.w L.u T.m) 7 [.slice (some ⟨gc,0,none⟩) (L.w+1) cc]} gc=some ⟨xv++dS [N3 0 1 none],cc*3,121,true⟩:=by rw[bg _ _ Gs];exact Xl
 generalize ins H3 G.g {(⟨G.cells L.w L.u T.m,9,127,true⟩:Ent)with xs:=aJ (G.cells L.w L.u T.m) 7 [.slice (some ⟨gc,0,none⟩) (L.w+1) cc]}=H4 at ku h4 Xo
 refine ab [0,1] ?_
 have Xp:bA (bS (rem H4 (G.eU (.slice (some ⟨gc,0,none⟩) (L.w+1) cc) gc).gs)) 3 (xv++dS [N3 0 1 none]) (aK (gK T f 0) (L.w+1)):=by
  rw[ln (f:=gK T f 0) (g:=fun j=>if j=L.w then 0 else f j) (fun j _=>by unfold gK;rw[DL,PH];grind),←agr];exact(Lj.mono fun vs a=>jc _ _ vs a ku).append (iE (w9 _ (n:=0) (by decide) (by decide)) rfl)
 obtain⟨G',vH⟩:∃G',G'=G.eU (.slice (some ⟨gc,0,none⟩) (L.w+1) cc) gc:=⟨_,rfl⟩;rw[←vH]at ku h4 Xp
 have BO:G'.g=G.g:=by rw[vH];rfl
 have oB:iO H4 G' L {T with c:=gK T f 0}:=⟨gc,cc,by rw[vH];rfl,by rw[vH];rfl,_,_,Xo,Xp⟩;have h4':dE H4 G' L {T with c:=gK T f 0}:=h4.congr rfl rfl (fun _ _ _ _=>rfl) (fun _ _=>rfl);obtain⟨Ab,cb,du,_⟩:=h4.self.bv
 have jQ:cell H4 ((⟨G.g,0,none⟩:Addr).add 8)=some (.slice Ab T.m cb):=by rw[←du,←BO];exact h4.cell rfl
 refine ae (aa 2 rfl (aW ag rfl rfl rfl (aR ag rfl rfl rfl (jQ) (aa 2 rfl (ab [0,1,17,18,19] ?_)))));refine aE (fY (fun(k:Nat)=>T.m-k) (fun(k:Nat)=>put (put (put (put (put (emp) 0 (.val (.pointer (some ⟨G.g,0,none⟩)))) 1 (.val (.slice Av L.w cv0))) 17 (.val (.slice Ab T.m cb))) 18 (.val (.int .i64 (T.m:Int)))) 19 (.val (.int .i64 (k:Int)))) (fun(k:Nat) H'=>dE H' G' L {T with c:=gK T f k}∧iO H' G' L {T with c:=gK T f k}∧Heap.le (rem H G.gs) (rem H' G'.gs)∧k≤T.m) 0 (⟨h4',oB,ku,Nat.zero_le _⟩) ar ?_);rintro k H5 ⟨h5,lS,iM,mu⟩;obtain⟨A2,c2,GI,Gb⟩:=h5.self.bv;rw[du]at GI
 obtain⟨rfl,-,rfl⟩:Ab=A2∧T.m=T.m∧cb=c2:=by simpa using GI
 refine ae (aa 1 rfl (ab [0,1,17,18,19,20] ?_));refine ao (aD rfl (fun hb=> ?_) (fun hb=> ?_))
 ·
  have iQ:k<T.m:=by simpa using hb
  have Xq:=hB k iQ;obtain⟨pk,qB⟩:=h5.get (i:=k) iQ;obtain⟨vs0,_,jn,mg⟩:=Lj.get (dM Xq);obtain⟨n1,d1,b1,rfl⟩:=jn.cells;obtain⟨gc',cc',amN,amO,amP⟩:=id lS
  have kT:cell H5 ((⟨G.g,0,none⟩:Addr).add 7)=some G'.cv:=by rw[←BO];exact h5.cell rfl
  refine az (ah [0,1,17,18,19] rfl ?_);refine ao (aE (ae (aa 1 rfl (aS ag rfl rfl rfl rfl rfl (Gb) (by rw[Int.toNat_natCast];exact gI (B:=T.B) iQ) (by omega) (by omega) fun _=> ?_))));refine aa 2 rfl (ab [0,1,4,5,17,18,19] ?_);refine eo .uT [0,1,2,3,4,5,6,7,8,9,10] follows (by kernel_rfl) ?_;refine aa 3 rfl (aW ag rfl rfl rfl (aR ag rfl rfl rfl (kT) (aa 3 rfl (cj (vs:=[.int .i64 n1,.int .i64 d1,.pointer b1]) ag rfl rfl rfl rfl ((ka.le iM).le (bD _ _)) rfl (by decide) (by rw[Int.toNat_natCast];exact mg) (by omega) (by omega) fun _=> ?_))));refine VH rfl rfl (by rw[←BO];exact WK (N:=N) h5 lS qB (jn.le iM) hN hw (hf _ Xq) (fun j hj=>hp k (by omega) j hj) (fun j hj=>hA k iQ j hj)) ?_;rintro v6 H6 ⟨h6,qC,sk⟩;refine au (ah [0,1,17,18,19] rfl ?_);refine aA rfl (aF rfl rfl ⟨by omega,by omega⟩ (aa 1 rfl (au ?_)));exact⟨k+1,by omega,ar,h6.congr rfl rfl (fun _ _ _ _=>rfl) (fun _ _=>rfl),qC.congr (fun j _=>agq T f k j),iM.trans sk,by omega⟩
 ·
  have hb:T.m≤k:=by simpa using hb
  obtain rfl:k=T.m:=by omega
  refine aX ?_;refine⟨.inl rfl,_,.nil,?_⟩;exact⟨_,gc,Lk,by rw[←vH];exact h5,by rw[←vH];exact lS,by rw[←vH];exact iM⟩
end Go.aq
namespace Go.aq
open Go
section
variable {P:Program} {n:Nat} {tb:Tb} {all:Array Oper} {s:St} {H:Heap} {md:Mode} {K:St→Heap→Prop} {r:List Oper} {dst:Option Nat} {ty:TypeId} {pos:String} {after:Array Edge} {gd:Option (Nat×Bool)} {kc:Addr→Option Value}
theorem Ee{op:Op}(v:Value)(hm:rz op=false)(hc:(Mode.cO kc).fM H)(hg:cn all s gd=some true)(nb:ji s dst=true)
  (h:∀a w,gA n s a→(∀ad u,kc ad=some u→w.cell? ad=some u)→(execOp a.eval ⟨dst,op,ty,pos,after,gd⟩).run P w = .ok (.value v) w) (k:aT P n all (.cO kc) r (bE s dst (.val v)) H K):aT P n all (.cO kc) (⟨dst,op,ty,pos,after,gd⟩::r) s H K:=
 .l8 v rfl hm nb hc (fun a w ha hd=> .inl ⟨jJ ha (lf (o:=⟨dst,op,ty,pos,after,gd⟩) hg),h a w ha hd⟩) k
theorem eP{x:Operand}{v:Value}(hc:(Mode.cO kc).fM H)(hx:ev s x=some v)(hk:aT P n all (.cO kc) r (bE s dst (.val v)) H K)(hg:cn all s gd=some true:=by rfl)(nb:ji s dst=true:=by rfl):aT P n all (.cO kc) (⟨dst,.move x,ty,pos,after,gd⟩::r) s H K:=
 Ee v rfl hc hg nb (fun a w ha _=>by simp[execOp,bT ha hx]) hk
theorem lU{x:Operand}{ad:Addr}(hc:(Mode.cO kc).fM H)(hx:ev s x=some (.pointer (some ad)))(hk:aT P n all (.cO kc) r (bE s dst (.val (.pointer (some ad)))) H K)(hg:cn all s gd=some true:=by rfl)(nb:ji s dst=true:=by rfl):aT P n all (.cO kc) (⟨dst,.nilCheck x,ty,pos,after,gd⟩::r) s H K:=
 Ee _ rfl hc hg nb (fun a w ha _=>by simp[execOp,bT ha hx]) hk
theorem lV{t:TypeId}{x:Operand}{f:Nat}{ad:Addr}{m o z:Nat}{ps:List (Nat×Nat)}(hc:(Mode.cO kc).fM H)(dJ:jX P tb)(ht:tb[t]? = some (.st m ps))(hf:ps[f]? = some (o,z))(hx:ev s x=some (.pointer (some ad)))
  (hk:aT P n all (.cO kc) r (bE s dst (.val (.pointer (some (ad.add o))))) H K) (hg:cn all s gd=some true:=by rfl) (nb:ji s dst=true:=by rfl):aT P n all (.cO kc) (⟨dst,.fieldAddr t x f,ty,pos,after,gd⟩::r) s H K:=
 Ee _ rfl hc hg nb (fun a w ha _=>by
  obtain⟨fs,ii,hu,h2,h3,_,h4⟩:=dJ t _ ht
  obtain⟨fd,jj,h5,h6,h7,h9,gE⟩:=h4 f _ hf
  have h8:jj.size≠0:=by rw[h9];exact gE
  simp only at h6
  simp[execOp,bT ha hx,Instr.fieldAt,run_underlying hu,h5,Instr.sureAddr,JU h7 h8,h6]) hk
theorem jR{t:TypeId}{x:Operand}{ad:Addr}{ti:Ti}{v:Value}(hc:(Mode.cO kc).fM H)(dJ:jX P tb)(ht:tb[t]? = some ti)(h1:yB ti=true)(hx:ev s x=some (.pointer (some ad)))(hv:kc ad=some v)
  (hk:aT P n all (.cO kc) r (bE s dst (.val v)) H K) (hg:cn all s gd=some true:=by rfl) (nb:ji s dst=true:=by rfl):aT P n all (.cO kc) (⟨dst,.load t x,ty,pos,after,gd⟩::r) s H K:=
 Ee _ rfl hc hg nb (fun a w ha hd=>by simp[execOp,bT ha hx,Instr.loadAt,Instr.sureAddr,NZ (dJ t _ ht) h1 (hd ad v hv)]) hk
theorem Ef{f:Operand}{iK:FuncId}{cap args:List Value}{xs:List Operand}{ts:Array TypeId}{bF:Value→Heap→Prop}(hf:ev s f=some (.func (.func iK) #[] cap.toArray))(hx:qg s xs=some args)
  (h:Fn P iK (args++cap).toArray H bF) (hm:∀v H',bF v H'→(Mode.cO kc).fM H') (hk:∀v H',bF v H'→aT P n all (.cO kc) r (bE s dst (.val v)) H' K) (hg:cn all s gd=some true:=by rfl) (nb:ji s dst=true:=by rfl):aT P n all (.cO kc) (⟨dst,.call ⟨.value f,xs.toArray,ts⟩,ty,pos,after,gd⟩::r) s H K:=
 .mM bF rfl (.inl FG) nb (FF (cap:=cap) hf hx hg h) (.inr hm) fun v H' hp _=>hk v H' hp
theorem Eg{t e bytes:Nat}{x:Operand}{z v:Value}(ht:P.underlying t=some (.slice e))(he:fA P e 1 z bytes)(hx:ev s x=some v)(hv:v.cells = #[v])
  (hk:∀g,H g=none→aT P n all (.cO kc) r (bE s dst (.val (.slice (some ⟨g,0,none⟩) 1 1))) (ins H g (whole [v] e)) K) (hg:cn all s gd=some true:=by rfl) (nb:ji s dst=true:=by rfl):
  aT P n all (.cO kc) (⟨dst,.buildSlice t 1 #[(0,x)],ty,pos,after,gd⟩::r) s H K:=
 .oa (fun g=> .slice (some ⟨g,0,none⟩) 1 1) [v] e rfl rfl nb (fun a w ha=>by
  refine⟨jJ ha (lf (o:=⟨dst,.buildSlice t 1 #[(0,x)],ty,pos,after,gd⟩) hg),?_⟩
  obtain⟨i,hi,hz,cP,_,qh,_⟩:=he
  have ma:v.cells.size=1:=by rw[hv];rfl
  have AU:Instr.fill (fun k=>some (k*i.size,i.size)) (madeCells z.cells (1*i.size)) [(0,v)]=some #[v]:=by
   have h1:=UO (sz:=1) [v] 0 [] (madeCells z.cells 1).toList (fun u hu=>by rw[List.mem_singleton]at hu;rw[hu];exact ma) rfl (by simp[size_madeCells])
   simp only[List.nil_append,Array.toArray_toList,List.length_singleton]at h1
   have e1:dS [v] = [v]:=by simp[dS,hv]
   rw[e1]at h1
   rw[cP]
   simpa [List.range']using h1
  have:=UP (P:=P) (w:=w) (t:=t) (e:=e) (len:=1) (i:=i) (z:=z) (parts:= #[(0,v)]) (cells:= #[v]) ht hi hz (by rw[cP];decide) (by rw[cP];decide) AU
  simp only[execOp,List.map_toArray,List.map_cons,List.map_nil,bT ha hx,Sem.run_bind,this,Result.andThen_ok,Sem.run_pure]) fun g hg _=>hk g hg
theorem Eh{t e sz bytes:Nat}{x y:Operand}{z v:Value}{m k c:Nat}{A:Option Addr}{xs news:List Value}(ht:P.underlying t=some (.slice e))(he:fA P e sz z bytes)(hx:ev s x=some v)(hy:ev s y=some (.slice A k c))(ho:bR H v e sz m xs)
  (hr:Rd H A news) (hl:news.length=k*sz) (h1:∀u∈news,u.oneCell'=true) (hb:(m+k)*bytes≤140737488355328) (pB:m+k≤9223372036854775807) (hc:(Mode.cO kc).fM H)
  (hk:∀v' H',App H v e sz (m+k) (xs++news) v' H'→aT P n all (.cO kc) r (bE s dst (.val v')) H' K) (hg:cn all s gd=some true:=by rfl) (nb:ji s dst=true:=by rfl):aT P n all (.cO kc) (⟨dst,.call ⟨.builtin .append,#[x,y],#[t,t]⟩,ty,pos,after,gd⟩::r) s H K:=
 .mM (fun v' H'=>App H v e sz (m+k) (xs++news) v' H') rfl (.inl (by simp[kd,JF])) nb (fun a w ha hd=>by
  refine⟨jJ ha (lf (o:=⟨dst,.call ⟨.builtin .append,#[x,y],#[t,t]⟩,ty,pos,after,gd⟩) hg),?_⟩
  obtain⟨v',w',H',h2,h3,h4,h5⟩:=UL (P:=P) (c:=c) hd ht he ho hr hl h1 hb pB ty
  have hex:(execOp a.eval ⟨dst,.call ⟨.builtin .append,#[x,y],#[t,t]⟩,ty,pos,after,gd⟩).run P w = .ok (.value v') w':=by
   simp[execOp,resolve,invoke,builtin,bT ha hx,bT ha hy,h2]
  unfold lE
  rw[hex]
  exact⟨H',h3,h4,h5⟩) (.inr fun v' H' ha ad u hu=>cB ha.le (hc ad u hu)) fun v' H' ha _=>hk v' H' ha
theorem agz{t:TypeId}{x y:Operand}{g o sz:Nat}{ent:Ent}{v:Value}{vs:List Value}{ii:TypeInfo}(hx:ev s x=some (.pointer (some ⟨g,o,none⟩)))(hg:H g=some ent)(cC:ent.own=true)(lj:o+sz≤ent.xs.length)
  (wE:P.info? t=some ii) (cP:ii.size=sz) (hy:ev s y=some v) (hv:v.cells=vs.toArray) (jl:vs.length=sz) (h1:vs.all yH=true) (rI:cn all s gd=some true):
  EV P n all ⟨none,.store t x y,ty,pos,after,gd⟩ s H (fun _ H'=>H'=ins H g {ent with xs:=aJ ent.xs o vs}):=fun a w ha hd=>by
 refine⟨jJ ha (lf (o:=⟨none,.store t x y,ty,pos,after,gd⟩) rI),?_⟩
 obtain⟨ob,h2,cur,fz,rfl,h3,h4,h5⟩:=hd g ent hg
 have pA:=h5 cC
 subst pA
 have FL:cur=cur.toList.toArray:=by simp
 have hlen:ent.xs.length≤cur.toList.length:=by
  rcases Nat.eq_zero_or_pos ent.xs.length with h | h
  ·omega
  ·have hx:=h4 (ent.xs.length-1) _ (List.getElem?_eq_getElem (by omega))
   have:=(Array.getElem?_eq_some_iff.1 hx).1
   simp;omega
 rw[FL]at h2
 obtain⟨w',h6,h7,h8,h9,gE,gZ,AV⟩:=JZ (P:=P) vs cur.toList w o 0 h2 (fun u hu=>List.all_eq_true.1 h1 u hu) (by omega)
 have hex:(execOp a.eval ⟨none,.store t x y,ty,pos,after,gd⟩).run P w = .ok .skip w':=by
  simp[execOp,bT ha hx,bT ha hy,Instr.storeAt,Instr.sureAddr,storeVar,sizeOf,typeInfo,wE,cP,hv,jl,h6]
 unfold lE
 rw[hex]
 refine⟨_,rfl,C8 (o:= .cells (aJ cur.toList (o+0) vs).toArray ent.elem (0,0)) hd h7 h8 h9 (by omega) (fun q _ hq=>gZ q hq) AV ⟨_,(0,0),rfl,?_,?_,fun _=>rfl⟩ (.inl ⟨_,hg,cC,cC,rfl,rfl⟩)⟩
 ·simp[FD,h3]
 ·intro q u hq
  have:=VI vs ent.xs cur.toList o (fun i w hw=>by have:=h4 i w hw;simpa using this) (by omega) q u hq
  simpa using this
theorem BP{t:TypeId}{x y:Operand}{g o sz:Nat}{ent:Ent}{v:Value}{vs:List Value}{ii:TypeInfo}(hx:ev s x=some (.pointer (some ⟨g,o,none⟩)))(hg:H g=some ent)(cC:ent.own=true)(lj:o+sz≤ent.xs.length)
  (wE:P.info? t=some ii) (cP:ii.size=sz) (hy:ev s y=some v) (hv:v.cells=vs.toArray) (jl:vs.length=sz) (h1:vs.all yH=true)
  (hk:aT P n all (.cO kc) r s (ins H g {ent with xs:=aJ ent.xs o vs}) K) (rI:cn all s gd=some true:=by rfl):aT P n all (.cO kc) (⟨none,.store t x y,ty,pos,after,gd⟩::r) s H K:=
 .mM _ rfl (.inr rfl) rfl (agz hx hg cC lj wE cP hy hv jl h1 rI) (.inl rfl) fun _ H' hH _=>by rw[hH];exact hk
theorem Ll{f:FuncId}{xs:List Operand}{cap:List Value}(hx:qg s xs=some cap)(hk:aT P n all md r (bE s dst (.val (.func (.func f) #[] cap.toArray))) H K)(hg:cn all s gd=some true:=by rfl)(nb:md.nb s dst=true:=by rfl):
  aT P n all md (⟨dst,.makeFunc (.func f) #[] xs.toArray,ty,pos,after,gd⟩::r) s H K:=
 iW _ rfl hg nb (fun a w ha _=>by simp[execOp,N4 ha xs cap hx,Instr.makeFunc]) hk
end
end Go.aq
namespace Go.aq
open Go.Proofs Num Lp
def jS(L:TL)(a:Nat→Rat)(sg:Rat):Nat→Nat→Rat
 | 0=>fun _=>0
 | k+1=>if 0≤L.mZ k then bZ (bZ (jS L a sg k) (L.pF k) (a k*sg)) (L.mZ k).toNat (-(a k*sg))else bZ (jS L a sg k) (L.pF k) (a k*sg)
def sC(f:Nat→Rat)(rel slack:Int)(sg:Rat):Nat→Rat:=if rel=1 then bZ f slack.toNat sg else if rel=3 then bZ f slack.toNat (-sg)else f
def Lm(L:TL)(n:Nat)(a:Nat→Rat)(b:Rat)(rel slack:Int)(unit:Nat)(sg:Rat):Nat→Rat:=
 bZ (bZ (sC (jS L a sg n) rel slack sg) unit 1) L.w (b*sg)
def fK(N:Nat)(H:Heap)(vs:List Value)(r:List Rat×Int×Rat):Prop:=
 ∃c f u w,vs = [c,.int .i64 r.2.1,.bool f,u,w]∧aQ (dI N) 3 H c r.1∧cT H (.agg #[.bool f,u,w]) r.2.2 N
theorem jC(N:Nat):Up (fK N):=fun H H' vs r hl ⟨c,f,u,w,h1,h2,h3⟩=>⟨c,f,u,w,h1,h2.le (r8 N) hl,h3.le hl⟩
theorem fK.cells{N:Nat}{H:Heap}{vs:List Value}{r:List Rat×Int×Rat}(h:fK N H vs r):∃A c k f A1 m1 c1 A2 m2 c2,vs = [.slice A k c,.int .i64 r.2.1,.bool f,.slice A1 m1 c1,.slice A2 m2 c2]∧k=r.1.length:=by
 obtain⟨c,f,u,w,h1,⟨A,cc,xs,rfl,_⟩,h3⟩:=h
 obtain⟨f',u',w',l1,l2,e,⟨A1,c1,rfl,_,_⟩,⟨A2,c2,rfl,_,_⟩,_⟩:=h3
 have:=DS (vs:=[.bool f,u,w]) e
 simp only[List.cons.injEq,Value.bool.injEq,and_true]at this
 obtain⟨_,rfl,rfl⟩:=this
 exact⟨A,cc,_,f,A1,_,c1,A2,_,c2,h1,rfl⟩
theorem Ei{H:Heap}{gv g w:Nat}{ts:List Value}(hv:cell H ⟨gv,0,none⟩=some (.pointer (some ⟨g,0,none⟩)))(hg:H g=some ⟨.int .i64 (w:Int)::ts,9,127,true⟩)(bo:gv≠g)(hw:(w:Int)≤1000000):
 Fn Tryz.prog 120 #[.pointer (some ⟨gv,0,none⟩)] H (fun v H'=>v = .int .i64 (w:Int)∧H'=ins H g ⟨.int .i64 ((w+1:Nat):Int)::ts,9,127,true⟩):=by
 have mW:cell H ((⟨g,0,none⟩:Addr))=some (.int .i64 (w:Int)):=by simp[cell,hg]
 have Db:∀e,cell (ins H g e) ⟨gv,0,none⟩=some (.pointer (some ⟨g,0,none⟩)):=fun e=>by
  simp only[cell,bg _ _ bo]at hv⊢;exact hv
 refine aZ (args:=[_]) Tryz.func120 rfl rfl Tryz.ntmps120 rfl rfl fun w0=> ?_;refine ah [0] rfl ?_;refine ae (aa 1 rfl (ab [0] ?_));refine ae (aR ag rfl rfl rfl (hv) (aa 1 rfl (aW ag rfl rfl rfl (aR ag rfl rfl rfl (mW) (aF rfl rfl ⟨by omega,by omega⟩ (aa 1 rfl (aW ag rfl rfl rfl ?_)))))));obtain⟨ti,aj,ak⟩:=u6;refine j6 (g:=g) (o:=0) (.inl rfl) rfl hg rfl (by show 0+1≤(Value.int .i64 (w:Int)::ts).length;simp) aj ak rfl rfl rfl rfl ?_;rw[show ({(⟨.int .i64 (w:Int)::ts,9,127,true⟩:Ent)with xs:=aJ (.int .i64 (w:Int)::ts) 0 [.int .i64 ((w:Int)+1)]}:Ent)=⟨.int .i64 ((w+1:Nat):Int)::ts,9,127,true⟩from rfl];refine ab [0] ?_;refine ae (aR ag rfl rfl rfl (Db _) (aa 1 rfl (aW ag rfl rfl rfl (aR ag rfl rfl rfl (show cell (ins H g ⟨.int .i64 ((w+1:Nat):Int)::ts,9,127,true⟩) ⟨g,0,none⟩=some (.int .i64 ((w+1:Nat):Int))from by simp[cell,ins]) ?_))));refine cQ rfl rfl ⟨by omega,by omega⟩ (aa 1 rfl (ab [1] ?_));refine aB ⟨.inr rfl,_,.tmp rfl (.nil),?_⟩;refine⟨?_,rfl⟩
 show Value.int .i64 (((w+1:Nat):Int)-1)=_
 rw[show (((w+1:Nat):Int)-1)=(w:Int) by omega]
end Go.aq
namespace Go.aq
open Go.Proofs Num
theorem BQ{H:Heap}{u:Value}{l:List Nat}(hu:jz H u l)(bX:Lt l)(hm:(l.length:Int)≤17592186044416):
 Fn Tryz.prog 115 #[u] H (mS H (val l)):=by
 obtain⟨A,c,rfl,hc,hr⟩:=hu;refine aZ (args:=[_]) Tryz.func115 rfl rfl Tryz.ntmps115 rfl rfl fun w0=> ?_;refine ah [0] rfl ?_;refine ae (aa 1 rfl (ab [0] ?_));refine ae (aa 3 rfl (ab [0,3] ?_));refine ao (aE (fY (fun(k:Nat)=>k) (fun(k:Nat)=>put (put (emp) 0 (.val (.slice A l.length c))) 3 (.val (.int .i64 (k:Int)))) (fun(k:Nat) H'=>H'=H∧k≤l.length∧val (l.take k)=val l) l.length (⟨rfl,Nat.le_refl _,by simp⟩) ar ?_));rintro k H1 ⟨rfl,hk,hv⟩;refine ao ?_
 rcases Nat.eq_zero_or_pos k with Kj | Kj
 ·
  skip
  refine ae (aa 1 rfl (aG false rfl rfl (kt (by omega)) (aa 8 rfl (ab [0,3,15] ?_))));refine dh rfl (aX (ah [0,3] rfl ?_));refine ae (aa 2 rfl (rJ ag rfl rfl (.inl ⟨rfl,rfl⟩) (.inr ⟨_,_,rfl,rfl⟩) (by omega) (by omega) ?_));rw[yQ];refine dW Tryz.underlying36 eH rfl rfl (yP _) (hr.take k) (by simp[Dj];omega) (fun u hu=>ow _ u (List.mem_of_mem_take hu)) (by simp;omega) (by simp;omega) ?_;intro v1 H2 ha;rw[←FU,Nat.sub_zero]at ha;refine aa 1 rfl (ab [2] ?_);refine aB ⟨.inr rfl,_,.tmp rfl (.nil),?_⟩;have e:=Kg bX hk hv (.inl Kj);have h1:=(App.pE (a:=[]) (b:=l.take k) ha rfl (by simp;omega)).lim;rw[List.nil_append,←e]at h1;exact⟨ha.le,h1⟩
 ·
  obtain⟨x,hx⟩:∃x,l[k-1]? = some x:=⟨_,List.getElem?_eq_getElem (by omega)⟩;refine ae (aa 1 rfl (aG true rfl rfl (ov (by omega)) (aa 3 rfl (cQ rfl rfl ⟨by omega,by omega⟩ (aS ag rfl rfl rfl rfl rfl (hr) (dB (by rw[show ((k:Int)-1).toNat=k-1 by omega];exact hx)) (by omega) (by omega) fun _=> ?_)))));refine aa 2 rfl (ab [0,3,15] ?_);refine aD rfl (fun hb=> ?_) (fun hb=> ?_)
  ·
   have hb:x=0:=by simpa using hb
   refine az (ah [0,3] rfl ?_);refine aE (aA rfl (aa 1 rfl (cQ rfl rfl ⟨by omega,by omega⟩ (aa 1 rfl (au ?_)))));exact⟨k-1,by omega,ar,rfl,by omega,by have:=kN hx;rw[show k-1+1=k by omega,hb,Nat.mul_zero,Nat.add_zero]at this;rw[←this];exact hv⟩
  have hb:x≠0:=by simpa using hb
  refine aX (ah [0,3] rfl ?_);refine ae (aa 2 rfl (rJ ag rfl rfl (.inl ⟨rfl,rfl⟩) (.inr ⟨_,_,rfl,rfl⟩) (by omega) (by omega) ?_));rw[yQ];refine dW Tryz.underlying36 eH rfl rfl (yP _) (hr.take k) (by simp[Dj];omega) (fun u hu=>ow _ u (List.mem_of_mem_take hu)) (by simp;omega) (by simp;omega) ?_;intro v1 H2 ha;rw[←FU,Nat.sub_zero]at ha;refine aa 1 rfl (ab [2] ?_);refine aB ⟨.inr rfl,_,.tmp rfl (.nil),?_⟩;have e:=Kg bX hk hv (.inr ⟨x,hx,hb⟩);have h1:=(App.pE (a:=[]) (b:=l.take k) ha rfl (by simp;omega)).lim;rw[List.nil_append,←e]at h1;exact⟨ha.le,h1⟩
theorem Xr{H:Heap}{u:Value}{l:List Nat}(hu:jz H u l)(Ba:∀x,x∈l→x<4294967296)(hm:(l.length:Int)≤8796093022208):
 Fn Tryz.prog 74 #[u] H (mS H (val l)):=by
 obtain⟨A,c,rfl,hc,hr⟩:=hu;refine aZ (args:=[_]) Tryz.func74 rfl rfl Tryz.ntmps74 rfl rfl fun w0=> ?_;refine ah [0] rfl ?_;refine ae (aa 1 rfl (ab [0] ?_));refine ae (aa 1 rfl (ab [0,3] ?_));refine ae (aa 1 rfl (ab [0,3,4] ?_));refine ao (ae (aa 1 rfl (ab [0,3,4,5] ?_)));refine aE (pC (fun(k:Nat)(v:Value)(o:List Nat)(cr:Nat)=>l.length-k) (fun(k:Nat)(v:Value)(o:List Nat)(cr:Nat)=>put (put (put (put (emp) 0 (.val (.slice A l.length c))) 3 (.val (v))) 4 (.val (.int .u64 (cr:Int)))) 5 (.val (.int .i64 (k:Int)))) (fun(k:Nat)(v:Value)(o:List Nat)(cr:Nat) H'=>Heap.le H H'∧kO H' v o∧k≤l.length∧o.length=k∧Lt o∧cr≤4∧val o+B^k*cr=val (l.take k)) 0 _ [] 0 (⟨.refl _,yP _,by omega,rfl,Lt.nil,by omega,by simp[val]⟩) ar ?_);rintro k v o cr H1 ⟨hle,cC,hk,dX,eu,qm,hv⟩;obtain⟨Ao,co,rfl⟩:=bR.form cC;refine ao (ae (aa 4 rfl (ab [0,3,4,5,9] ?_)));refine aD rfl (fun hb=> ?_) (fun hb=> ?_)
 ·
  have hb:k<l.length:=by simpa using hb
  obtain⟨p,hp⟩:∃p,l[k]? = some p:=⟨_,List.getElem?_eq_getElem hb⟩;have ael:=Ba p (List.mem_of_getElem? hp);refine az (ah [0,3,4,5] rfl ?_);refine ao (aE (ae (aa 3 rfl (aS ag rfl rfl rfl rfl rfl (hr.le hle) (dB hp) (by omega) (by omega) fun _=>(di ag rfl rfl rfl ⟨by omega,by omega⟩ (aF rfl rfl ⟨by omega,by omega⟩ (aa 1 rfl (ab [0,3,4,5] ?_))))))));refine ae (aa 2 rfl (mP rfl rfl (by omega) (by omega) (di ag rfl rfl rfl ⟨by omega,by omega⟩ (cI Tryz.underlying36 eH rfl rfl rfl rfl rfl rfl rfl ?_))));intro gb aV;refine dW Tryz.underlying36 eH rfl rfl (cC.ins _ aV) (rO (y:=(cr+p)%1000000000) rfl) (rfl) (ow _) (by omega) (by omega) ?_;intro v1 H2 ha;refine aa 1 rfl (ab [0,3,4,5] ?_);refine aA rfl (aa 1 rfl (lG rfl rfl (by omega) (by omega) ⟨by omega,by omega⟩ (aa 1 rfl (au (ah [0,3,4,5] rfl ?_)))));refine aA rfl (aa 1 rfl (aF rfl rfl ⟨by omega,by omega⟩ (aa 1 rfl (au ?_))));have dG:=Dh (s:=cr+p) (u:=val (l.take (k+1))) dX hv rfl (kN hp);exact⟨k+1,v1,o ++ [(cr+p)%B],(cr+p)/B,by omega,ar,(hle.trans (Heap.bG _ aV)).trans ha.le,ha.pE rfl rfl,by omega,by simp[dX],eu.snoc (Nat.mod_lt _ mQ),by rw[cg];omega,dG⟩
 ·
  have hb:l.length≤k:=by simpa using hb
  obtain rfl:k=l.length:=by omega
  rw[List.take_length]at hv;refine aX (ah [3,4] rfl ?_);refine AW (fun(v:Value)(o:List Nat)=>put (emp) 3 (.val (v))) (fun(v:Value)(o:List Nat) H'=>Heap.le H H'∧kO H' v o∧o.length≤l.length+1∧Lt o∧val o=val l) ?_ ?_
  ·
   refine ae (aa 2 rfl (ab [3,4,28] ?_));refine aD rfl (fun hb=> ?_) (fun hb=> ?_)
   ·
    have hb:0<cr:=by simpa using hb
    refine aA rfl (aa 2 rfl (di ag rfl rfl rfl ⟨by omega,by omega⟩ (cI Tryz.underlying36 eH rfl rfl rfl rfl rfl rfl rfl ?_)));intro gb aV;refine dW Tryz.underlying36 eH rfl rfl (cC.ins _ aV) (rO (y:=cr) rfl) (rfl) (ow _) (by omega) (by omega) ?_;intro v1 H2 ha;refine aa 1 rfl (au ?_);exact⟨v1,o ++ [cr],(by repeat (first | exact iJ _ | refine dA rfl ?_ | refine dA (iX (by omega)) ?_)),(hle.trans (Heap.bG _ aV)).trans ha.le,ha.pE rfl rfl,by simp;omega,eu.snoc (by rw[cg];omega),by rw[rL,dX];exact hv⟩
   have hb:cr=0:=by simpa using hb
   refine az ?_;exact⟨_,o,(by repeat (first | exact iJ _ | refine dA rfl ?_ | refine dA (iX (by omega)) ?_)),hle,cC,by omega,eu,by rw[hb,Nat.mul_zero]at hv;omega⟩
  rintro v o H3 ⟨hle,cC,dX,eu,hv⟩;refine ae (aa 1 rfl (aC rfl rfl (BQ cC.lim eu (by omega)) ?_));intro v1 H4 hp;refine aa 1 rfl (ab [2] ?_);refine aB ⟨.inr rfl,_,.tmp rfl (.nil),?_⟩;exact⟨hle.trans hp.le,by have:=hp.nat;rwa [hv]at this⟩
theorem GR{H:Heap}{x:Nat}(hx:x<18446744073709551616):
 Fn Tryz.prog 41 #[.int .u64 (x:Int)] H (mS H x):=by
 refine aZ (args:=[_]) Tryz.func41 rfl rfl Tryz.ntmps41 rfl rfl fun w0=> ?_;refine ah [0] rfl ?_;refine ae (aa 1 rfl (ab [0] ?_));refine ae (aa 1 rfl (ab [0,3] ?_));refine ao (aE (fB (fun(y:Nat)(v:Value)(o:List Nat)=>y) (fun(y:Nat)(v:Value)(o:List Nat)=>put (put (emp) 0 (.val (.int .u64 (y:Int)))) 3 (.val (v))) (fun(y:Nat)(v:Value)(o:List Nat) H'=>Heap.le H H'∧kO H' v o∧y≤x∧o++al y=al x) x (.slice none 0 0) [] (⟨.refl _,yP _,Nat.le_refl _,rfl⟩) ar ?_));rintro y v o H1 ⟨hle,cC,wH,ho⟩;obtain⟨A,c,rfl⟩:=bR.form cC
 have dX:o.length≤(al x).length:=by rw[←ho];simp
 have cZ:(al x).length≤3:=iZ.2 (by rw[cg];omega);refine ao (ae (aa 2 rfl (ab [0,3,5] ?_)));refine aD rfl (fun hb=> ?_) (fun hb=> ?_)
 ·
  have hb:0<y:=by simpa using hb
  refine az (ah [0,3] rfl ?_);refine aE (ae (aa 2 rfl (mP rfl rfl (by omega) (by omega) (di ag rfl rfl rfl ⟨by omega,by omega⟩ (cI Tryz.underlying36 eH rfl rfl rfl rfl rfl rfl rfl ?_)))));intro gb aV;refine dW Tryz.underlying36 eH rfl rfl (cC.ins _ aV) (rO (U2 y 1000000000)) (rfl) (ow _) (by omega) (by omega) ?_;intro v1 H2 ha;refine aa 1 rfl (ab [0,3] ?_);refine aA rfl (aa 1 rfl (lG rfl rfl (by omega) (by omega) ⟨by omega,by omega⟩ (aa 1 rfl (au ?_))))
  have jk:0<y:=by omega
  rw[yN jk]at ho;exact⟨y/B,v1,o ++ [y%B],Nat.div_lt_self jk (by decide),ar,(hle.trans (Heap.bG _ aV)).trans ha.le,ha.pE rfl rfl,Nat.le_trans (Nat.div_le_self _ _) wH,by simpa using ho⟩
 ·
  have hb:y=0:=by simpa using hb
  refine aX (ah [3] rfl ?_);refine ae (aa 2 rfl (ab [2] ?_));refine aB ⟨.inr rfl,_,.tmp rfl (.nil),?_⟩;subst hb;exact⟨hle,Dk (cC.lim) (by rw[show o=al x by simpa [qk]using ho];exact fP x) (by rw[show o=al x by simpa [qk]using ho];exact cR x)⟩
theorem Ln{H:Heap}{u v:Value}{x y:Nat}(hx:dr H u x)(hy:dr H v y)(hm:((al x).length:Int)≤35184372088832):
 Fn Tryz.prog 72 #[u,v] H (j5 H (.int .i64 (kr x y))):=by
 obtain⟨A,c,rfl,hc,hr⟩:=hx
 obtain⟨A',c',rfl,jw,dR⟩:=hy;refine aZ (args:=[_,_]) Tryz.func72 rfl rfl Tryz.ntmps72 rfl rfl fun w0=> ?_;refine ah [0,1] rfl ?_;refine ae (aa 1 rfl (ab [0,1] ?_));refine ao (ae (aa 5 rfl (ab [0,1,10] ?_)));refine aD rfl (fun hb=> ?_) (fun hb=> ?_)
 ·
  have hl:(al x).length≠(al y).length:=by simp at hb;omega
  refine ao (ae (aa 5 rfl (ab [15] ?_)));refine aD rfl (fun hb=> ?_) (fun hb=> ?_)
  ·
   simp at hb
   refine ae (aa 1 rfl (ab [4] ?_));refine aB ⟨.inr rfl,_,.tmp rfl (.nil),?_⟩;exact⟨rfl,by rw[Kc (Ke hb)];rfl⟩
  ·
   simp at hb
   refine az (ah [] rfl ?_);refine ae (aa 1 rfl (ab [4] ?_));refine aB ⟨.inr rfl,_,.tmp rfl (.nil),?_⟩;exact⟨rfl,by rw[Kd (Ke (by omega))];rfl⟩
 ·
  have hl:(al x).length=(al y).length:=by simp at hb;omega
  refine az (ah [0,1] rfl ?_);refine ao (ae (aa 2 rfl (cQ rfl rfl ⟨by omega,by omega⟩ (aa 1 rfl (ab [0,1,5] ?_)))));refine aE (fY (fun(k:Nat)=>k) (fun(k:Nat)=>put (put (put (emp) 0 (.val (.slice A (al x).length c))) 1 (.val (.slice A' (al y).length c'))) 5 (.val (.int .i64 ((k:Int)-1)))) (fun(k:Nat) H'=>H'=H∧k≤(al x).length∧(al x).drop k=(al y).drop k) (al x).length (⟨rfl,Nat.le_refl _,by rw[List.drop_of_length_le (Nat.le_refl _),List.drop_of_length_le (by omega)]⟩) ar ?_);rintro k H1 ⟨rfl,hk,hd⟩;refine ao (ae (aa 2 rfl (ab [0,1,5,20] ?_)));refine aD rfl (fun hb=> ?_) (fun hb=> ?_)
  ·
   simp at hb
   obtain⟨p,hp⟩:∃p,(al x)[k-1]? = some p:=⟨_,List.getElem?_eq_getElem (by omega)⟩;obtain⟨q,hq⟩:∃q,(al y)[k-1]? = some q:=⟨_,List.getElem?_eq_getElem (by omega)⟩
   have hj:((k:Int)-1).toNat=k-1:=by omega
   have fc:(al x).drop (k-1+1)=(al y).drop (k-1+1):=by rw[show k-1+1=k by omega];exact hd
   refine az (ah [0,1,5] rfl ?_);refine ao (aE (ao (bM .bJ [0,1,2,3,4,5,6,7,8] follows (by kernel_rfl) ?_)));refine aa 2 rfl (aS ag rfl rfl rfl rfl rfl (hr) (by rw[hj];exact dB hp) (by omega) (by omega) fun _=> ?_);refine aa 2 rfl (aS ag rfl rfl rfl rfl rfl (dR) (by rw[hj];exact dB hq) (by omega) (by omega) fun _=> ?_);refine aa 1 rfl (ab [0,1,5,31] ?_);refine aD rfl (fun hb=> ?_) (fun hb=> ?_)
   ·
    have mR:p<q:=by simpa using hb
    refine ae (aa 1 rfl (ab [4] ?_));refine aB ⟨.inr rfl,_,.tmp rfl (.nil),?_⟩;exact⟨rfl,by rw[Kc (by have:=Kb (fP x).lt hp hq fc mR;rwa [cR,cR]at this)];rfl⟩
   have mR:¬p<q:=by simpa using hb
   refine az (ah [0,1,5] rfl ?_);refine bM .bJ [0,1,2,3,4,5,6,7,8] follows (by kernel_rfl) ?_;refine aa 2 rfl (aS ag rfl rfl rfl rfl rfl (hr) (by rw[hj];exact dB hp) (by omega) (by omega) fun _=> ?_);refine aa 2 rfl (aS ag rfl rfl rfl rfl rfl (dR) (by rw[hj];exact dB hq) (by omega) (by omega) fun _=> ?_);refine aa 1 rfl (ab [0,1,5,40] ?_);refine aD rfl (fun hb=> ?_) (fun hb=> ?_)
   ·
    have FV:q<p:=by simpa using hb
    refine ae (aa 1 rfl (ab [4] ?_));refine aB ⟨.inr rfl,_,.tmp rfl (.nil),?_⟩;exact⟨rfl,by rw[Kd (by have:=Kb (fP y).lt hq hp fc.symm FV;rwa [cR,cR]at this)];rfl⟩
   have FV:¬q<p:=by simpa using hb
   refine az (ah [0,1,5] rfl ?_);refine aA rfl (aa 1 rfl (cQ rfl rfl ⟨by omega,by omega⟩ (aa 1 rfl (au ?_))))
   obtain rfl:p=q:=by omega
   exact⟨k-1,by omega,ar,rfl,by omega,UZ (by omega) hp hq hd⟩
  simp at hb
  refine aX (ah [] rfl ?_);refine ae (aa 1 rfl (ab [4] ?_));refine aB ⟨.inr rfl,_,.tmp rfl (.nil),?_⟩
  obtain rfl:k=0:=by omega
  have:x=y:=by rw[←cR x,←cR y];simpa using congrArg val hd
  exact⟨rfl,by rw[this,UY];rfl⟩
end Go.aq
namespace Go.aq
open Go.Proofs Num
theorem getD_lt{l:List Nat}(h:Lt l)(k:Nat):(l[k]?).getD 0<1000000000:=by
 cases hq:l[k]? with
 | none=>simp
 | some z=>have:=h.get hq;rw[cg]at this;simpa using this
theorem getD_some{l:List Nat}{k e:Nat}(he:e=(l[k]?).getD 0)(h:k<l.length):l[k]? = some e:=by
 rw[List.getElem?_eq_getElem h]at he⊢;simp at he;rw[he]
theorem getD_none{l:List Nat}{k e:Nat}(he:e=(l[k]?).getD 0)(h:l.length≤k):e=0:=by
 rw[he,List.getElem?_eq_none h];rfl
theorem agA{H:Heap}{u v:Value}{x y:Nat}(hx:dr H u x)(hy:dr H v y)(hm:((al x).length:Int)≤8796093022208)(bK:((al y).length:Int)≤8796093022208):
 Fn Tryz.prog 71 #[u,v] H (mS H (x+y)):=by
 obtain⟨A,c,rfl,hc,hr⟩:=hx
 obtain⟨A',c',rfl,jw,dR⟩:=hy
 have iD:=(fP x).lt
 have eE:=(fP y).lt
 obtain⟨M,hM⟩:∃M,M=max (al x).length (al y).length:=⟨_,rfl⟩;refine aZ (args:=[_,_]) Tryz.func71 rfl rfl Tryz.ntmps71 rfl rfl fun w0=> ?_;refine ah [0,1] rfl ?_;refine ae (aa 1 rfl (ab [0,1] ?_));refine ae (aa 1 rfl (ab [0,1,5] ?_));refine ae (aa 1 rfl (ab [0,1,5,6] ?_));refine ao (ae (aa 1 rfl (ab [0,1,5,6,7] ?_)));refine aE (pC (fun(k:Nat)(v:Value)(o:List Nat)(cr:Nat)=>M+1-k) (fun(k:Nat)(v:Value)(o:List Nat)(cr:Nat)=>put (put (put (put (put (emp) 0 (.val (.slice A (al x).length c))) 1 (.val (.slice A' (al y).length c'))) 5 (.val (v))) 6 (.val (.int .u32 (cr:Int)))) 7 (.val (.int .i64 (k:Int)))) (fun(k:Nat)(v:Value)(o:List Nat)(cr:Nat) H'=>Heap.le H H'∧kO H' v o∧k≤M+1∧o.length=k∧Lt o∧cr≤1∧val o+B^k*cr=val ((al x).take k)+val ((al y).take k)∧(k=M+1→cr=0∧B^M≤val o)) 0 _ [] 0 (⟨.refl _,yP _,by omega,rfl,Lt.nil,by omega,by simp[val],by omega⟩) ar ?_);rintro k v o cr H1 ⟨hle,cC,hk,dX,eu,qm,hv,hM1⟩;obtain⟨Ao,co,rfl⟩:=bR.form cC;refine Dc (put (put (put (put (put (emp) 0 (.val (.slice A (al x).length c))) 1 (.val (.slice A' (al y).length c'))) 5 (.val (.slice Ao o.length co))) 6 (.val (.int .u32 (cr:Int)))) 7 (.val (.int .i64 (k:Int)))) (fun H'=>H'=H1∧k≤M∧(k<(al x).length∨k<(al y).length∨0<cr)) ?_ ?_
 ·
  by_cases nL:k<(al x).length
  ·
   skip
   refine ae (aa 3 rfl (aG true rfl rfl (ja (by omega)) (aa 10 rfl (ab [0,1,5,6,7,22] ?_))));refine cK rfl (az ?_);exact⟨ar,rfl,by omega,.inl nL⟩
  ·
   by_cases qE:k<(al y).length
   skip
   ·
    skip
    refine ae (aa 3 rfl (aG false rfl rfl (ia (by omega)) (aa 4 rfl (aG true rfl rfl (ja (by omega)) (aa 5 rfl (ab [0,1,5,6,7,22] ?_))))));refine cK rfl (az ?_);exact⟨ar,rfl,by omega,.inr (.inl qE)⟩
   skip
   refine ae (aa 3 rfl (aG false rfl rfl (ia (by omega)) (aa 4 rfl (aG false rfl rfl (ia (by omega)) (aa 5 rfl (ab [0,1,5,6,7,22] ?_))))));refine aD rfl (fun hb=> ?_) (fun hb=> ?_)
   ·
    have hb:0<cr:=by simpa using hb
    refine az ?_;exact⟨ar,rfl,by omega,.inr (.inr hb)⟩
   have hb:cr=0:=by simpa using hb
   refine aX (ah [5] rfl ?_);refine ae (aa 2 rfl (ab [4] ?_));refine aB ⟨.inr rfl,_,.tmp rfl (.nil),?_⟩;subst hb;rw[Nat.mul_zero,Nat.add_zero,List.take_of_length_le (by omega),List.take_of_length_le (by omega),cR,cR]at hv;refine⟨hle,Dk cC.lim (last_pos eu dX ?_) hv⟩
   rcases Nat.eq_zero_or_pos k with e | e
   ·exact .inl e
   right
   by_cases h1:k=M+1
   ·
    have:=(hM1 h1).2;rw[show k-1=M by omega];exact this
   have h2:k=M:=by omega
   rw[hv]
   rcases Nat.le_total (al x).length (al y).length with h3 | h3
   ·
    have h4:k=(al y).length:=by omega
    have h5:=Oz (y:=y) (Nat.pos_of_ne_zero fun e0=>by rw[jL.2 e0]at h4;omega);rw[h4];omega
   have h4:k=(al x).length:=by omega
   have h5:=Oz (y:=x) (Nat.pos_of_ne_zero fun e0=>by rw[jL.2 e0]at h4;omega);rw[h4];omega
 ·
  rintro H2 ⟨rfl,hkM,amQ⟩;obtain⟨da,GS⟩:∃e,e=((al x)[k]?).getD 0:=⟨_,rfl⟩;obtain⟨db,tq⟩:∃e,e=((al y)[k]?).getD 0:=⟨_,rfl⟩
  have amR:da<1000000000:=by rw[GS];exact getD_lt iD k
  have amS:db<1000000000:=by rw[tq];exact getD_lt eE k
  refine ao (aE (ae (aa 2 rfl (ab [0,1,5,7,8] ?_))));refine kM (fun(sv:Int)=>put (put (put (put (put (emp) 0 (.val (.slice A (al x).length c))) 1 (.val (.slice A' (al y).length c'))) 5 (.val (.slice Ao o.length co))) 7 (.val (.int .i64 (k:Int)))) 8 (.val (.int .u32 sv))) (fun(sv:Int) H'=>H'=H2∧sv=(cr:Int)+da) ?_ ?_
  ·
   refine ae (aa 4 rfl (ab [0,1,5,7,8,29] ?_));refine aD rfl (fun hb=> ?_) (fun hb=> ?_)
   ·
    have hb:k<(al x).length:=by simpa using hb
    have hz:=getD_some GS hb;refine aA rfl (aa 3 rfl (aS ag rfl rfl rfl rfl rfl (hr.le hle) (dB hz) (by omega) (by omega) fun _=>(aF rfl rfl ⟨by omega,by omega⟩ (aa 1 rfl (au ?_)))));exact⟨(cr:Int)+da,ar,rfl,rfl⟩
   have hb:(al x).length≤k:=by simpa using hb
   have hz:=getD_none GS hb;refine az ?_;exact⟨(cr:Int),ar,rfl,by omega⟩
  rintro sv H3 ⟨rfl,wI⟩;refine kM (fun(Lo:Int)=>put (put (put (put (put (emp) 0 (.val (.slice A (al x).length c))) 1 (.val (.slice A' (al y).length c'))) 5 (.val (.slice Ao o.length co))) 7 (.val (.int .i64 (k:Int)))) 8 (.val (.int .u32 Lo))) (fun(Lo:Int) H'=>H'=H3∧Lo=(cr:Int)+da+db) ?_ ?_
  ·
   refine ae (aa 4 rfl (ab [0,1,5,7,8,39] ?_));refine aD rfl (fun hb=> ?_) (fun hb=> ?_)
   ·
    have hb:k<(al y).length:=by simpa using hb
    have hz:=getD_some tq hb;refine aA rfl (aa 3 rfl (aS ag rfl rfl rfl rfl rfl (dR.le hle) (dB hz) (by omega) (by omega) fun _=>(aF rfl rfl ⟨by omega,by omega⟩ (aa 1 rfl (au ?_)))));exact⟨sv+db,ar,rfl,by omega⟩
   have hb:(al y).length≤k:=by simpa using hb
   have hz:=getD_none tq hb;refine az ?_;exact⟨sv,ar,rfl,by omega⟩
  rintro Lo H4 ⟨rfl,amT⟩;refine ae (aa 1 rfl (lG rfl rfl (by omega) (by omega) ⟨by omega,by omega⟩ (aa 1 rfl (ab [0,1,5,6,7,8] ?_))));refine aA rfl (aa 2 rfl (mP rfl rfl (by omega) (by omega) (cI Tryz.underlying36 eH rfl rfl rfl rfl rfl rfl rfl ?_)));intro gb aV;refine dW Tryz.underlying36 eH rfl rfl (cC.ins _ aV) (rO (y:=(cr+da+db)%1000000000) (by omega)) (rfl) (ow _) (by omega) (by omega) ?_;intro v1 H5 ha;refine aa 1 rfl (au (ah [0,1,5,6,7] rfl ?_));refine aA rfl (aa 1 rfl (aF rfl rfl ⟨by omega,by omega⟩ (aa 1 rfl (au ?_))));have dG:=Dh (s:=cr+da+db) (a:=cr) (b:=da+db) (u:=val ((al x).take (k+1))+val ((al y).take (k+1))) dX hv (by omega) (by rw[yO,yO,←GS,←tq,Nat.mul_add];omega);refine⟨k+1,v1,o ++ [(cr+da+db)%B],(cr+da+db)/1000000000,by omega,ar,(hle.trans (Heap.bG _ aV)).trans ha.le,ha.pE rfl rfl,by omega,by simp[dX],eu.snoc (Nat.mod_lt _ mQ),by omega,dG,fun e=> ?_⟩;have h1:=getD_none GS (by omega);have h2:=getD_none tq (by omega)
  obtain rfl:k=M:=by omega
  have h3:cr=1:=by omega
  subst h1 h2 h3;rw[rL,dX,show (1+0+0)%B=1 from rfl,show (1+0+0)/1000000000=0 from rfl];exact⟨rfl,by omega⟩
end Go.aq
namespace Go.aq
open Go.Proofs Num
theorem Lq{H:Heap}{u v:Value}{x y:Nat}(hx:dr H u x)(hy:dr H v y)(wH:y≤x)(hm:((al x).length:Int)≤8796093022208):
 Fn Tryz.prog 73 #[u,v] H (mS H (x-y)):=by
 obtain⟨A,c,rfl,hc,hr⟩:=hx
 obtain⟨A',c',rfl,jw,dR⟩:=hy
 have iD:=(fP x).lt
 have eE:=(fP y).lt
 have hl:=mc wH;refine aZ (args:=[_,_]) Tryz.func73 rfl rfl Tryz.ntmps73 rfl rfl fun w0=> ?_;refine ah [0,1] rfl ?_;refine ae (aa 1 rfl (ab [0,1] ?_));refine ae (aa 2 rfl (gP Tryz.underlying36 eH rfl rfl rfl (by omega) (by omega) (by omega) (by omega) ?_));intro g hg;rw[show (((al x).length:Int)).toNat=(al x).length from by omega,yS];have qn:=fun e=>hr.le (Heap.bG (g:=g) e hg);have FW:=fun e=>dR.le (Heap.bG (g:=g) e hg);refine aa 1 rfl (ab [0,1,5] ?_);refine ae (aa 1 rfl (ab [0,1,5,6] ?_));refine ao (ae (aa 1 rfl (ab [0,1,5,6,7] ?_)));refine aE (fB (fun(k:Nat)(o:List Nat)(br:Nat)=>(al x).length-k) (fun(k:Nat)(o:List Nat)(br:Nat)=>put (put (put (put (put (emp) 0 (.val (.slice A (al x).length c))) 1 (.val (.slice A' (al y).length c'))) 5 (.val (.slice (some ⟨g,0,none⟩) (al x).length (al x).length))) 6 (.val (.int .u32 (br:Int)))) 7 (.val (.int .i64 (k:Int)))) (fun(k:Nat)(o:List Nat)(br:Nat) H'=>H'=ins H g (dH o (al x).length)∧k≤(al x).length∧o.length=(al x).length∧Lt o∧br≤1∧val ((al x).take k)+B^k*br=val (o.take k)+val ((al y).take k)) 0 _ 0 (⟨rfl,by omega,by simp,Lt.replicate _,by omega,by simp[val]⟩) ar ?_)
 rintro k o br H1 ⟨rfl,hk,dX,eu,vk,hv⟩;refine ao (ae (aa 4 rfl (ab [0,1,5,6,7,15] ?_)));refine aD rfl (fun hb=> ?_) (fun hb=> ?_)
 ·
  have hb:k<(al x).length:=by simpa using hb
  obtain⟨d,hd⟩:∃d,(al x)[k]? = some d:=⟨_,List.getElem?_eq_getElem hb⟩;have lH:=iD.get hd;rw[cg]at lH;obtain⟨e,he⟩:∃e,e=((al y)[k]?).getD 0:=⟨_,rfl⟩
  have Dl:e<1000000000:=by rw[he];exact getD_lt eE k
  refine az (ah [0,1,5,6,7] rfl ?_);refine ao (aE (ae (aa 2 rfl (ab [0,1,5,7,8] ?_))));refine kM (fun(sv:Int)=>put (put (put (put (put (emp) 0 (.val (.slice A (al x).length c))) 1 (.val (.slice A' (al y).length c'))) 5 (.val (.slice (some ⟨g,0,none⟩) (al x).length (al x).length))) 7 (.val (.int .i64 (k:Int)))) 8 (.val (.int .u32 sv))) (fun(sv:Int) H'=>H'=ins H g (dH o (al x).length)∧sv=(br:Int)+e) ?_ ?_
  ·
   refine ae (aa 4 rfl (ab [0,1,5,7,8,22] ?_));refine aD rfl (fun hb=> ?_) (fun hb=> ?_)
   ·
    have hb:k<(al y).length:=by simpa using hb
    have hz:=getD_some he hb;refine aA rfl (aa 3 rfl (aS ag rfl rfl rfl rfl rfl (FW _) (dB hz) (by omega) (by omega) fun _=>(aF rfl rfl ⟨by omega,by omega⟩ (aa 1 rfl (au ?_)))));exact⟨(br:Int)+e,ar,rfl,rfl⟩
   have hb:(al y).length≤k:=by simpa using hb
   have hz:=getD_none he hb;refine az ?_;exact⟨(br:Int),ar,rfl,by omega⟩
  ·
   rintro sv H4 ⟨rfl,wI⟩;refine ae (aa 2 rfl (aS ag rfl rfl rfl rfl rfl (qn _) (dB hd) (by omega) (by omega) fun _=>(aa 2 rfl (ab [0,1,5,7,8,34] ?_))));refine aD rfl (fun hb=> ?_) (fun hb=> ?_)
   ·
    have hb:sv≤d:=by simpa using hb
    refine aA rfl (aa 4 rfl (aS ag rfl rfl rfl rfl rfl (qn _) (dB hd) (by omega) (by omega) fun _=>(aa 1 rfl (cQ rfl rfl ⟨by omega,by omega⟩ ?_))));obtain⟨ti,aj,ak⟩:=ou;refine cV (.inl rfl) ag rfl rfl rfl (by omega) (by omega) (bn _ _ _) rfl (by rw[ox];omega) aj ak (fun _=>rfl) rfl rfl rfl fun _=> ?_;refine aa 1 rfl (au (ah [0,1,5,6,7] rfl ?_));refine aA rfl (aa 1 rfl (aF rfl rfl ⟨by omega,by omega⟩ (aa 1 rfl (au ?_))));have dG:=FT (o:=o.take k) (s:=d-br-e) (br':=0) (d:=d) (e:=e) (by simp;omega) hv (by omega) (kN hd) (show val ((al y).take (k+1))=val ((al y).take k)+B^k*e by rw[yO,←he]);rw[←yT (by omega)]at dG;exact⟨k+1,o.set k (d-br-e),0,by omega,ar,by rw[vj (y:=d-br-e) (by omega)];rfl,by omega,by simp[dX],eu.set (by rw[cg];omega),by omega,dG⟩
   have hb:(d:Int)<sv:=by simpa using hb
   refine aA rfl (aa 4 rfl (aS ag rfl rfl rfl rfl rfl (qn _) (dB hd) (by omega) (by omega) fun _=>(aF rfl rfl ⟨by omega,by omega⟩ (aa 1 rfl (cQ rfl rfl ⟨by omega,by omega⟩ ?_)))));obtain⟨ti,aj,ak⟩:=ou;refine cV (.inl rfl) ag rfl rfl rfl (by omega) (by omega) (bn _ _ _) rfl (by rw[ox];omega) aj ak (fun _=>rfl) rfl rfl rfl fun _=> ?_;refine aa 1 rfl (au (ah [0,1,5,6,7] rfl ?_));refine aA rfl (aa 1 rfl (aF rfl rfl ⟨by omega,by omega⟩ (aa 1 rfl (au ?_))));have dG:=FT (o:=o.take k) (s:=d+1000000000-br-e) (br':=1) (d:=d) (e:=e) (by simp;omega) hv (by rw[cg];omega) (kN hd) (show val ((al y).take (k+1))=val ((al y).take k)+B^k*e by rw[yO,←he]);rw[←yT (by omega)]at dG;exact⟨k+1,o.set k (d+1000000000-br-e),1,by omega,ar,by rw[vj (y:=d+1000000000-br-e) (by omega)];rfl,by omega,by simp[dX],eu.set (by rw[cg];omega),by omega,dG⟩
 ·
  have hb:(al x).length≤k:=by simpa using hb
  obtain rfl:k=(al x).length:=by omega
  rw[List.take_length,List.take_of_length_le hl,cR,cR,List.take_of_length_le (by omega)]at hv;have Bb:=vf eu;rw[dX]at Bb
  have tz:br=0:=by
   rcases Nat.eq_zero_or_pos br with h|h
   ·exact h
   ·
    obtain rfl:br=1:=by omega
    omega
  refine aX (ah [5] rfl ?_);refine ae (aa 1 rfl (aC rfl rfl (BQ (AZ _ _ o _ _ dX.symm (Nat.le_refl _)) eu (by omega)) ?_));intro v1 H4 hp;refine aa 1 rfl (ab [4] ?_);refine aB ⟨.inr rfl,_,.tmp rfl (.nil),?_⟩;exact⟨(Heap.bG _ hg).trans hp.le,by have:=hp.nat;rwa [show val o=x-y by rw[tz]at hv;omega]at this⟩
theorem xF{H:Heap}{u v:Value}{x y:Nat}(hx:dr H u x)(hy:dr H v y)(hm:((al x).length:Int)<8796093022208)(bK:((al y).length:Int)<8796093022208):
 Fn Tryz.prog 70 #[u,v] H (mS H (x*y)):=by
 obtain⟨A,c,rfl,hc,hr⟩:=hx
 obtain⟨A',c',rfl,jw,dR⟩:=hy
 have iD:=(fP x).lt
 have eE:=(fP y).lt;refine aZ (args:=[_,_]) Tryz.func70 rfl rfl Tryz.ntmps70 rfl rfl fun w0=> ?_;refine ah [0,1] rfl ?_;refine ae (aa 1 rfl (ab [0,1] ?_));refine ae (aa 4 rfl (aF rfl rfl ⟨by omega,by omega⟩ (aF rfl rfl ⟨by omega,by omega⟩ (gP Tryz.underlying36 eH rfl rfl rfl (by omega) (by omega) (by omega) (by omega) ?_))));intro g hg;rw[show (((al x).length:Int)+((al y).length:Int)+1).toNat=((al x).length+(al y).length+1)from by omega,yS];have qn:=fun e=>hr.le (Heap.bG (g:=g) e hg);have FW:=fun e=>dR.le (Heap.bG (g:=g) e hg);refine aa 1 rfl (ab [0,1,5] ?_);refine ao (ae (aa 1 rfl (ab [0,1,5,6] ?_)));refine aE (gn (fun(i:Nat)(o:List Nat)=>(al x).length-i) (fun(i:Nat)(o:List Nat)=>put (put (put (put (emp) 0 (.val (.slice A (al x).length c))) 1 (.val (.slice A' (al y).length c'))) 5 (.val (.slice (some ⟨g,0,none⟩) ((al x).length+(al y).length+1) ((al x).length+(al y).length+1)))) 6 (.val (.int .i64 (i:Int)))) (fun(i:Nat)(o:List Nat) H'=>H'=ins H g (dH o ((al x).length+(al y).length+1))∧i≤(al x).length∧o.length=((al x).length+(al y).length+1)∧Lt o∧rP o (i+(al y).length)∧val o=val ((al x).take i)*y) 0 _ (⟨rfl,by omega,by simp,Lt.replicate _,Vb _ _,by simp[val,U1]⟩) ar ?_)
 rintro i o H1 ⟨rfl,hi,dX,eu,hz,hv⟩;refine ao (ae (aa 4 rfl (ab [0,1,5,6,19] ?_)));refine aD rfl (fun hb=> ?_) (fun hb=> ?_)
 ·
  have hb:i<(al x).length:=by simpa using hb
  obtain⟨d,hd⟩:∃d,(al x)[i]? = some d:=⟨_,List.getElem?_eq_getElem hb⟩;have lH:=iD.get hd;rw[cg]at lH;refine az (ah [0,1,5,6] rfl ?_);refine ao (aE (ae (aa 1 rfl (ab [0,1,5,6,7] ?_))));refine ae (aa 1 rfl (ab [0,1,5,6,7,8] ?_));refine aE (fB (fun(j:Nat)(o2:List Nat)(cr:Nat)=>(al y).length+1-j) (fun(j:Nat)(o2:List Nat)(cr:Nat)=>put (put (put (put (put (put (emp) 0 (.val (.slice A (al x).length c))) 1 (.val (.slice A' (al y).length c'))) 5 (.val (.slice (some ⟨g,0,none⟩) ((al x).length+(al y).length+1) ((al x).length+(al y).length+1)))) 6 (.val (.int .i64 (i:Int)))) 7 (.val (.int .u64 (cr:Int)))) 8 (.val (.int .i64 (j:Int)))) (fun(j:Nat)(o2:List Nat)(cr:Nat) H'=>H'=ins H g (dH o2 ((al x).length+(al y).length+1))∧j≤(al y).length+1∧o2.length=((al x).length+(al y).length+1)∧Lt o2∧cr<1000000000∧rP o2 (i+(al y).length+1)∧(j≤(al y).length→rP o2 (i+(al y).length))∧(j=(al y).length+1→cr=0)∧val o2+B^(i+j)*cr=val ((al x).take i)*y+B^i*d*val ((al y).take j)) 0 o 0 (⟨rfl,by omega,dX,eu,by omega,fun t z ht=>hz t z (by omega),fun _=>hz,by omega,by simp[val,hv]⟩) ar ?_);rintro j o2 cr H1 ⟨rfl,hj,FX,Be,qm,pG,sq,qo,dT⟩
  refine Dc (put (put (put (put (put (put (emp) 0 (.val (.slice A (al x).length c))) 1 (.val (.slice A' (al y).length c'))) 5 (.val (.slice (some ⟨g,0,none⟩) ((al x).length+(al y).length+1) ((al x).length+(al y).length+1)))) 6 (.val (.int .i64 (i:Int)))) 7 (.val (.int .u64 (cr:Int)))) 8 (.val (.int .i64 (j:Int)))) (fun H'=>H'=ins H g (dH o2 ((al x).length+(al y).length+1))∧j≤(al y).length) ?_ ?_
  ·
   by_cases hjb:j<(al y).length
   ·
    skip
    refine ae (aa 3 rfl (aG true rfl rfl (ja (by omega)) (aa 4 rfl (ab [0,1,5,6,7,8,29] ?_))));refine cK rfl (az ?_);exact⟨ar,rfl,by omega⟩
   skip
   refine ae (aa 3 rfl (aG false rfl rfl (ia (by omega)) (aa 4 rfl (ab [0,1,5,6,7,8,29] ?_))));refine aD rfl (fun hb=> ?_) (fun hb=> ?_)
   ·
    have hb:0<cr:=by simpa using hb
    refine az ?_;exact⟨ar,rfl,by omega⟩
   have hb:cr=0:=by simpa using hb
   subst hb;rw[List.take_of_length_le (l:=al y) (i:=j) (by omega),cR,Nat.mul_zero,Nat.add_zero]at dT;refine aX (ah [0,1,5,6] rfl ?_);refine aA rfl (aa 1 rfl (aF rfl rfl ⟨by omega,by omega⟩ (aa 1 rfl (au ?_))));refine⟨i+1,o2,by omega,ar,rfl,by omega,FX,Be,by rw[Nat.add_right_comm];exact pG,?_⟩;rw[kN hd,Nat.add_mul]
   omega
  ·
   rintro H4 ⟨rfl,W1⟩;obtain⟨p,hp⟩:∃p,p=((al y)[j]?).getD 0:=⟨_,rfl⟩
   have yR:p<1000000000:=by rw[hp];exact getD_lt eE j
   obtain⟨e,he⟩:∃e,o2[i+j]? = some e:=⟨_,List.getElem?_eq_getElem (by omega)⟩;have Dl:=Be.get he;rw[cg]at Dl
   have Bf:((i:Int)+(j:Int)).toNat=i+j:=by omega
   have U8:d*p≤999999999*999999999:=Nat.mul_le_mul (by omega) (by omega)
   have U9:(d:Int)*(p:Int)=((d*p:Nat):Int):=by simp
   refine ao (aE (ae (aa 4 rfl (aF rfl rfl ⟨by omega,by omega⟩ (aS ag rfl rfl rfl rfl rfl (Ki _ _ _ _) (by rw[Bf];exact dB he) (by omega) (by omega) fun _=> ?_)))));refine di ag rfl rfl rfl ⟨by omega,by omega⟩ (aF rfl rfl ⟨by omega,by omega⟩ (aa 1 rfl (ab [0,1,5,6,7,8] ?_)));refine kM (fun(sv:Int)=>put (put (put (put (put (put (emp) 0 (.val (.slice A (al x).length c))) 1 (.val (.slice A' (al y).length c'))) 5 (.val (.slice (some ⟨g,0,none⟩) ((al x).length+(al y).length+1) ((al x).length+(al y).length+1)))) 6 (.val (.int .i64 (i:Int)))) 7 (.val (.int .u64 sv))) 8 (.val (.int .i64 (j:Int)))) (fun(sv:Int) H'=>H'=ins H g (dH o2 ((al x).length+(al y).length+1))∧sv=((d*p+e+cr:Nat):Int)) ?_ ?_
   ·
    refine ae (aa 4 rfl (ab [0,1,5,6,7,8,44] ?_));refine aD rfl (fun hb=> ?_) (fun hb=> ?_)
    ·
     have hb:j<(al y).length:=by simpa using hb
     have dK:=getD_some hp hb;refine eo .bJ [0,1,2,3,4,5,6,7,8,9,10,11,12,13] follows (by kernel_rfl) ?_;refine aa 3 rfl (aS ag rfl rfl rfl rfl rfl (qn _) (dB hd) (by omega) (by omega) fun _=>(di ag rfl rfl rfl ⟨by omega,by omega⟩ (aa 2 rfl (aS ag rfl rfl rfl rfl rfl (FW _) (dB dK) (by omega) (by omega) fun _=>(di ag rfl rfl rfl ⟨by omega,by omega⟩ (gO rfl rfl ⟨by omega,by omega⟩ (aF rfl rfl ⟨by omega,by omega⟩ (aa 1 rfl (au ?_)))))))));exact⟨((d*p+e+cr:Nat):Int),ar,rfl,rfl⟩
    have hb:(al y).length≤j:=by simpa using hb
    have dK:=getD_none hp hb
    have Pd:d*p=0:=by rw[dK,Nat.mul_zero]
    refine az ?_;exact⟨((d*p+e+cr:Nat):Int),ar,rfl,rfl⟩
   rintro sv H4 ⟨rfl,wI⟩;refine ae (aa 3 rfl (aF rfl rfl ⟨by omega,by omega⟩ (aa 1 rfl (mP rfl rfl (by omega) (by omega) (di ag rfl rfl rfl ⟨by omega,by omega⟩ ?_)))));obtain⟨ti,aj,ak⟩:=ou;refine cV (.inl rfl) ag rfl rfl rfl (by omega) (by omega) (bn _ _ _) rfl (by rw[ox];omega) aj ak (fun _=>rfl) rfl rfl rfl fun _=> ?_;refine ab [0,1,5,6,7,8] ?_;refine aA rfl (aa 1 rfl (lG rfl rfl (by omega) (by omega) ⟨by omega,by omega⟩ (aa 1 rfl (au (ah [0,1,5,6,7,8] rfl ?_)))));refine aA rfl (aa 1 rfl (aF rfl rfl ⟨by omega,by omega⟩ (aa 1 rfl (au ?_))));refine⟨j+1,o2.set (i+j) ((d*p+e+cr)%B),(d*p+e+cr)/1000000000,by omega,ar,by rw[vj (y:=(d*p+e+cr)%B) (by rw[cg];omega),Bf],by omega,by simp[FX],Be.set (Nat.mod_lt _ mQ),by omega,pG.set (by omega),fun h=>(sq (by omega)).set (by omega),fun h=> ?_,?_⟩
   ·
    have h1:=getD_none hp (by omega);have h2:=sq (by omega) (i+j) e (by omega) he;subst h1 h2
    omega
   rw[yO,←hp];exact Vc he dT rfl
 ·
  have hb:(al x).length≤i:=by simpa using hb
  obtain rfl:i=(al x).length:=by omega
  rw[List.take_length,cR]at hv;refine aX (ah [5] rfl ?_);refine ae (aa 1 rfl (aC rfl rfl (BQ (AZ _ _ o _ _ dX.symm (Nat.le_refl _)) eu (by omega)) ?_));intro v1 H4 hp;refine aa 1 rfl (ab [4] ?_);refine aB ⟨.inr rfl,_,.tmp rfl (.nil),?_⟩;exact⟨(Heap.bG _ hg).trans hp.le,by have:=hp.nat;rwa [hv]at this⟩
theorem agB{H:Heap}{u:Value}{l:List Nat}{m:Nat}(hu:jz H u l)(hl:Lt l)(hm:m<1000000000)(wJ:0<m)(hs:(l.length:Int)≤8796093022208):
 Fn Tryz.prog 116 #[u,.int .u64 (m:Int)] H (fun v H'=>Heap.le H H'∧∃q,v = .tuple #[q,.int .u64 ((val l%m:Nat):Int)]∧dr H' q (val l/m)):=by
 obtain⟨A,c,rfl,hc,hr⟩:=hu;refine aZ (args:=[_,_]) Tryz.func116 rfl rfl Tryz.ntmps116 rfl rfl fun w0=> ?_;refine ah [0,1] rfl ?_;refine ae (aa 2 rfl (ab [0,1] ?_));refine ae (aa 2 rfl (gP Tryz.underlying36 eH rfl rfl rfl (by omega) (by omega) (by omega) (by omega) ?_));intro g hg;rw[show ((l.length:Int)).toNat=l.length from by omega,yS];have qn:=fun e=>hr.le (Heap.bG (g:=g) e hg);refine aa 1 rfl (ab [0,1,6] ?_);refine ae (aa 1 rfl (ab [0,1,6,7] ?_));refine ao (ae (aa 2 rfl (cQ rfl rfl ⟨by omega,by omega⟩ (aa 1 rfl (ab [0,1,6,7,8] ?_)))));refine aE (fB (fun(k:Nat)(o:List Nat)(rs:Nat)=>k) (fun(k:Nat)(o:List Nat)(rs:Nat)=>put (put (put (put (put (emp) 0 (.val (.slice A l.length c))) 1 (.val (.int .u64 (m:Int)))) 6 (.val (.slice (some ⟨g,0,none⟩) l.length l.length))) 7 (.val (.int .u64 (rs:Int)))) 8 (.val (.int .i64 ((k:Int)-1)))) (fun(k:Nat)(o:List Nat)(rs:Nat) H'=>H'=ins H g (dH o l.length)∧k≤l.length∧o.length=l.length∧Lt o∧rs<m∧val (o.drop k)*m+rs=val (l.drop k)) l.length _ 0 (⟨rfl,by omega,by simp,Lt.replicate _,by omega,by simp[val]⟩) ar ?_);rintro k o rs H1 ⟨rfl,hk,dX,eu,yU,hv⟩;refine ao ?_
 refine ae (aa 2 rfl (ab [0,1,6,7,8,16] ?_));refine aD rfl (fun hb=> ?_) (fun hb=> ?_)
 ·
  have hb:1≤k:=by simp at hb;omega
  obtain⟨k,rfl⟩:∃j,k=j+1:=⟨k-1,by omega⟩;obtain⟨d,hd⟩:∃d,l[k]? = some d:=⟨_,List.getElem?_eq_getElem (by omega)⟩;have lH:=hl.get hd;rw[cg]at lH
  have hj:(((k+1:Nat):Int)-1).toNat=k:=by omega
  have mf:((rs:Int)*1000000000+(d:Int))/(m:Int)<1000000000:=Int.ediv_lt_of_lt_mul (by omega) (by omega);have b8:0≤((rs:Int)*1000000000+(d:Int))/(m:Int):=Int.ediv_nonneg (by omega) (by omega);refine az (ah [0,1,6,7,8] rfl ?_);refine ao (aE (ae (aa 1 rfl (gO rfl rfl ⟨by omega,by omega⟩ (aa 2 rfl (aS ag rfl rfl rfl rfl rfl (qn _) (by rw[hj];exact dB hd) (by omega) (by omega) fun _=> ?_))))));refine di ag rfl rfl rfl ⟨by omega,by omega⟩ (aF rfl rfl ⟨by omega,by omega⟩ (aa 1 rfl (ab [0,1,6,7,8] ?_)));refine ae (aa 4 rfl (lG rfl rfl (by omega) (by omega) ⟨by omega,by omega⟩ (di ag rfl rfl rfl ⟨by omega,by omega⟩ ?_)));obtain⟨ti,aj,ak⟩:=ou;refine cV (.inl rfl) ag rfl rfl rfl (by omega) (by omega) (bn _ _ _) rfl (by rw[ox];omega) aj ak (fun _=>rfl) rfl rfl rfl fun _=> ?_;refine ab [0,1,6,7,8] ?_;refine aA rfl (aa 2 rfl (mP rfl rfl (by omega) (by omega) (aa 1 rfl (au (ah [0,1,6,7,8] rfl ?_)))));refine aA rfl (aa 1 rfl (cQ rfl rfl ⟨by omega,by omega⟩ (aa 1 rfl (au ?_))))
  have hq:(rs*1000000000+d)/m<1000000000:=by rw[Nat.div_lt_iff_lt_mul wJ];omega
  refine⟨k,o.set k ((rs*1000000000+d)/m),(rs*1000000000+d)%m,by omega,ar,by rw[vj (y:=(rs*1000000000+d)/m) (by simp)];rw[hj],by omega,by simp[dX],eu.set (by rw[cg];omega),Nat.mod_lt _ wJ,?_⟩;rw[set_drop (by omega),Di hd,jy,jy,←hv];have:=Nat.div_add_mod (rs*1000000000+d) m
  simp only[cg,Nat.add_mul,Nat.mul_add,Nat.mul_assoc]
  rw[Nat.mul_comm m]at this
  omega
 ·
  have hb:k=0:=by simp at hb;omega
  subst hb
  simp only[List.drop_zero]at hv
  refine aX (ah [6,7] rfl ?_);refine ae (aa 1 rfl (aC rfl rfl (BQ (AZ _ _ o _ _ dX.symm (Nat.le_refl _)) eu (by omega)) ?_));intro v1 H4 hp;refine aa 3 rfl (ab [4,5] ?_);refine aB ⟨.inr rfl,_,.tmp rfl (.tmp rfl (.nil)),?_⟩;refine⟨(Heap.bG _ hg).trans hp.le,v1,?_,?_⟩
  ·rw[(Km hv yU).2];rfl
  ·rw[(Km hv yU).1];exact hp.nat
end Go.aq
namespace Go.aq
open Go.Proofs Num
def agC(H:Heap)(v:Value)(H':Heap):Prop:=H'=H∧∃d:Nat,v = .int .u64 (d:Int)∧d≤999999999
theorem agD{H:Heap}{u v:Value}{x y:Nat}(hx:dr H u x)(hy:dr H v y)(Lr:2≤(al y).length)(qp:(al x).length≤(al y).length+1)(hm:((al y).length:Int)≤8796093022208):
 Fn Tryz.prog 117 #[u,v] H (agC H):=by
 obtain⟨A,c,rfl,hc,hr⟩:=hx
 obtain⟨A',c',rfl,jw,dR⟩:=hy
 have iD:=(fP x).lt
 have eE:=(fP y).lt
 obtain⟨k,hk⟩:∃k,(al y).length=k+2:=⟨(al y).length-2,by omega⟩
 have qo:(((al y).length:Int)-1).toNat=k+1:=by omega
 have tB:(((al y).length:Int)-2).toNat=k:=by omega
 obtain⟨b1,dY⟩:∃z,(al y)[k+1]? = some z:=⟨_,List.getElem?_eq_getElem (by omega)⟩
 obtain⟨b0,gD⟩:∃z,(al y)[k]? = some z:=⟨_,List.getElem?_eq_getElem (by omega)⟩
 have agE:=eE.get dY
 have agF:=eE.get gD
 have amU:b1≠0:=(fP y).last b1 (by rw[List.getLast?_eq_getElem?,hk];exact dY)
 rw[cg]at agE agF;refine aZ (args:=[_,_]) Tryz.func117 rfl rfl Tryz.ntmps117 rfl rfl fun w0=> ?_;refine ah [0,1] rfl ?_;refine ae (aa 1 rfl (ab [0,1] ?_));refine ae (aa 3 rfl (ab [0,1,5] ?_));refine ao (ae (aa 4 rfl (ab [0,1,5,15] ?_)));refine aD rfl (fun hb=> ?_) (fun hb=> ?_)
 ·
  skip
  refine ae (aa 1 rfl (ab [4] ?_));refine aB ⟨.inr rfl,_,.tmp rfl (.nil),?_⟩;exact⟨rfl,0,rfl,by omega⟩
 ·
  have hb:(al y).length≤(al x).length:=by simpa using hb
  obtain⟨r1,px⟩:∃z,(al x)[k+1]? = some z:=⟨_,List.getElem?_eq_getElem (by omega)⟩;obtain⟨r0,wz⟩:∃z,(al x)[k]? = some z:=⟨_,List.getElem?_eq_getElem (by omega)⟩;have Ls:=iD.get px;have agG:=iD.get wz;rw[cg]at Ls agG;have mf:((r1:Int)*1000000000+(r0:Int))/((b1:Int)*1000000000+(b0:Int))<1000000000:=Int.ediv_lt_of_lt_mul (by omega) (by omega);have b8:0≤((r1:Int)*1000000000+(r0:Int))/((b1:Int)*1000000000+(b0:Int)):=Int.ediv_nonneg (by omega) (by omega);obtain⟨q,hq⟩:∃q:Nat,(q:Int)=((r1:Int)*1000000000+(r0:Int))/((b1:Int)*1000000000+(b0:Int)):=⟨_,Int.toNat_of_nonneg b8⟩;rw[←hq]at mf;refine az (ah [0,1,5] rfl ?_);refine bM .bJ [0,1,2,3,4,5,6,7,8,9,10,11,12,13,14] follows (by kernel_rfl) ?_;refine aa 2 rfl (cQ rfl rfl ⟨by omega,by omega⟩ (aS ag rfl rfl rfl rfl rfl (dR) (by rw[qo];exact dB dY) (by omega) (by omega) fun _=> ?_));refine di ag rfl rfl rfl ⟨by omega,by omega⟩ (gO rfl rfl ⟨by omega,by omega⟩ (aa 2 rfl (cQ rfl rfl ⟨by omega,by omega⟩ (aS ag rfl rfl rfl rfl rfl (dR) (by rw[tB];exact dB gD) (by omega) (by omega) fun _=> ?_))));refine di ag rfl rfl rfl ⟨by omega,by omega⟩ (aF rfl rfl ⟨by omega,by omega⟩ (aa 1 rfl (ab [0,5,6] ?_)))
  refine bM .bJ [0,1,2,3,4,5,6,7,8,9,10,11,12,13,14] follows (by kernel_rfl) ?_;refine aa 2 rfl (cQ rfl rfl ⟨by omega,by omega⟩ (aS ag rfl rfl rfl rfl rfl (hr) (by rw[qo];exact dB px) (by omega) (by omega) fun _=> ?_));refine di ag rfl rfl rfl ⟨by omega,by omega⟩ (gO rfl rfl ⟨by omega,by omega⟩ (aa 2 rfl (cQ rfl rfl ⟨by omega,by omega⟩ (aS ag rfl rfl rfl rfl rfl (hr) (by rw[tB];exact dB wz) (by omega) (by omega) fun _=> ?_))));refine di ag rfl rfl rfl ⟨by omega,by omega⟩ (aF rfl rfl ⟨by omega,by omega⟩ (aa 1 rfl (ab [0,5,6,7] ?_)));refine ao (ae (aa 4 rfl (ab [0,5,6,7,47] ?_)));refine aD rfl (fun hb=> ?_) (fun hb=> ?_)
  ·
   skip
   refine ae (aa 2 rfl (lG rfl rfl (by omega) (by omega) ⟨by rw[←hq];omega,by rw[←hq];omega⟩ ?_));rw[←hq];refine aa 1 rfl (ab [4] ?_);refine aB ⟨.inr rfl,_,.tmp rfl (.nil),?_⟩;exact⟨rfl,q,rfl,by omega⟩
  have hb:(al x).length=(al y).length+1:=by simp at hb;omega
  obtain⟨rn,hrn⟩:∃z,(al x)[(al y).length]? = some z:=⟨_,List.getElem?_eq_getElem (by omega)⟩;refine az (ah [0,5,6,7] rfl ?_);refine ae (aa 2 rfl (aS ag rfl rfl rfl rfl rfl (hr) (dB hrn) (by omega) (by omega) fun _=>(Oa Tryz.underlying74 Tryz.underlying180 rfl fun f1=>(Ob (.inr (.inl rfl)) rfl rfl fun f2=>(aa 1 rfl (Oa Tryz.underlying73 Tryz.underlying180 rfl fun f3=>(Ob (.inl rfl) rfl rfl fun f4=>(aa 1 rfl (ab [6,8] ?_)))))))));refine ae (aa 2 rfl (Oa Tryz.underlying73 Tryz.underlying180 rfl fun f5=>(Ob (.inr (.inr rfl)) rfl rfl fun f6=>(acZ Tryz.underlying180 Tryz.underlying73 rfl fun f7 PT=>(aa 1 rfl (ab [9] ?_))))));refine ae (aa 1 rfl (acG (v:=((f7:Int)+2)%18446744073709551616) rfl rfl rfl (UQ rfl rfl ?_)))
  generalize hmn:(if (999999999:Int)<((f7:Int)+2)%18446744073709551616 then(999999999:Int)else((f7:Int)+2)%18446744073709551616)=mn
  have amV:0≤mn∧mn≤999999999:=by rw[←hmn];split <;> omega
  obtain⟨q2,rfl⟩:∃q2:Nat,mn=(q2:Int):=⟨mn.toNat,by omega⟩;refine aa 1 rfl (ab [4] ?_);refine aB ⟨.inr rfl,_,.tmp rfl (.nil),?_⟩;exact⟨rfl,q2,rfl,by omega⟩
end Go.aq
