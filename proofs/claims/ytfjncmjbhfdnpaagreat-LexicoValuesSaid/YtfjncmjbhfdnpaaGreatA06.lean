/- Part 6 of the proof: Tab5, Tab6, Tab7, Eng13, Tab8, Ref1, Ref2, Ref3, Ref4. -/
import Derived.Test.YtfjncmjbhfdnpaaGreatA05
set_option linter.unusedVariables false
namespace Go.aw
open Go.Proofs Num Lp
def TL.pF(L:TL)(j:Nat):Nat:=L.plus.getD j 0
def TL.mZ(L:TL)(j:Nat):Int:=L.minus.getD j (-1)
def TL.mF(L:TL)(j:Nat):Option Nat:=if 0≤L.mZ j then some (L.mZ j).toNat else none
def TL.uF(L:TL)(i:Nat):Nat:=L.ku.getD i 0
def TL.sF(L:TL)(i:Nat):Rat:=fn L.ke i
structure TL.Ok(L:TL)(n m:Nat):Prop where
 LK:L.plus.length=n
 LL:L.minus.length=n
 Qn:L.ku.length=m
 Qo:L.ke.length=m
 pw:∀j,j<n→L.pF j<L.w
 mw:∀j,j<n→L.mZ j<L.w
 uw:∀i,i<m→L.uF i<L.w
 s1:∀i,i<m→aP (L.sF i)≤1
section
variable {L:TL} {n m:Nat}
theorem TL.Ok.p(h:L.Ok n m){j:Nat}(hj:j<n):L.plus[j]? = some (L.pF j):=by
 have:j<L.plus.length:=by rw[h.LK];exact hj
 simp[TL.pF,List.getD,List.getElem?_eq_getElem this]
theorem TL.Ok.mi(h:L.Ok n m){j:Nat}(hj:j<n):L.minus[j]? = some (L.mZ j):=by
 have:j<L.minus.length:=by rw[h.LL];exact hj
 simp[TL.mZ,List.getD,List.getElem?_eq_getElem this]
theorem TL.Ok.u(h:L.Ok n m){i:Nat}(hi:i<m):L.ku[i]? = some (L.uF i):=by
 have:i<L.ku.length:=by rw[h.Qn];exact hi
 simp[TL.uF,List.getD,List.getElem?_eq_getElem this]
theorem TL.Ok.s(h:L.Ok n m){i:Nat}(hi:i<m):L.ke[i]? = some (L.sF i):=by
 have:i<L.ke.length:=by rw[h.Qo];exact hi
 simp[TL.sF,fn,List.getD,List.getElem?_eq_getElem this]
end
theorem agj{α:Type}(l:List α)(k:Nat)(a b:α):(l.set k a).set k b=l.set k b:=by simp
theorem Qs{K:Heap}{xs vs:List Value}{l:List (Option Rat)}{k:Nat}{q:Rat}(h:bE (iq bS K) 3 xs l)(hk:k<l.length)(hv:bS K vs q):bE (iq bS K) 3 (aM xs (k*3) vs) (l.set k (some q)):=h.set hk (show iq bS K vs (some q)from hv) hv.len
theorem XA{K:Heap}{xs:List Value}{f:Nat→Rat}{n:Nat}(h:bE (iq bS K) 3 xs (fill (aL f n) n)):bE (bS K) 3 xs (aL f n):=DZ (by rw[bh];exact h)
theorem XB{H:Heap}{G:TG}{L:TL}{T:ar}{n m N:Nat}{v:Value}{f:Nat→Rat}(h:dG H G L T)(hL:L.Ok n m)(hv:aR bS 3 (rem H G.gs) v (aL f L.w))(hf:∀j,j<L.w→aP (f j)≤N)(hN:(N:Int)≤274877906944)(hw:(L.w:Int)≤1000000)(hn:(n:Int)≤1000000):
 Fn Tryz.prog 132 #[.pointer (some ⟨G.g,0,none⟩),v] H (Ef bX 3 G.gs H (aL (dF.vec L.pF L.mF f) n)):=by
 obtain⟨Av,cv,xv,rfl,lr,uO⟩:=hv.num
 rw[bh]
 have Hs:=h.self
 obtain⟨Ap,cp,xp,sq,mh,BL⟩:=Hs.plus.one
 obtain⟨Am,cm,xm,vz,kf,Ht⟩:=Hs.minus.one
 rw[hL.LK]at sq
 rw[hL.LL]at vz
 obtain⟨l,hl⟩:∃l,l=dF.vec L.pF L.mF f:=⟨_,rfl⟩
 have dC:cell H ((⟨G.g,0,none⟩:Addr).add 2)=some (.slice Ap n cp):=by rw[←sq];exact h.cell rfl
 refine aZ (args:=[_,_]) Tryz.func132 rfl rfl Tryz.ntmps132 rfl rfl fun w0=> ?_;refine aj [0,1] rfl ?_;refine ag (ab 1 rfl (ae [0,1] ?_));refine ag (ab 2 rfl (aV ah rfl rfl rfl (aT ah rfl rfl rfl (dC) (ab 1 rfl (gJ Tryz.underlying85 fk rfl rfl rfl (by omega) (by omega) (by omega) (by omega) ?_)))));intro z js;rw[show ((n:Int)).toNat=n from by omega];have kN:fy G.gs H _ z (cD [.int .i64 0,.int .i64 0,.pointer none] (n*3)) (n*3) 90:=fy.new h.ne js
 have iI:bE (iq bS (rem (ins H z ⟨cD [.int .i64 0,.int .i64 0,.pointer none] (n*3),n*3,90,true⟩) (z::G.gs))) 3 (cD [.int .i64 0,.int .i64 0,.pointer none] (n*3)) (fill (aL l n) 0):=by have:=BE (P:=bS) (H:=rem (ins H z ⟨cD [.int .i64 0,.int .i64 0,.pointer none] (n*3),n*3,90,true⟩) (z::G.gs)) (zs:=[.int .i64 0,.int .i64 0,.pointer none]) (sz:=3) (by rfl) (aL l n);rwa [bh]at this
 refine ab 1 rfl (ae [0,1,5] ?_);refine aq (ag (ab 3 rfl (ae [0,1,5,14,15] ?_)));refine aG (ij (fun(k:Nat)(xs:List Value)=>n-k) (fun(k:Nat)(xs:List Value)=>put (put (put (put (put (emp) 0 (.val (.pointer (some ⟨G.g,0,none⟩)))) 1 (.val (.slice Av L.w cv))) 5 (.val (.slice (some ⟨z,0,none⟩) n n))) 14 (.val (.int .i64 (n:Int)))) 15 (.val (.int .i64 (k:Int)))) (fun(k:Nat)(xs:List Value) H'=>fy G.gs H H' z xs (n*3) 90∧bE (iq bS (rem H' (z::G.gs))) 3 xs (fill (aL l n) k)∧k≤n) 0 _ (⟨kN,iI,Nat.zero_le _⟩) au ?_);rintro k xs H2 ⟨eM,lq,fO⟩;have nD:=nC (l:=aL l n) (k:=k) (by rw[bh];exact fO);rw[bh]at nD;have cP:=lq.len;rw[nD]at cP;have l6:=eM.tab h;have mJ:=eM.hle;refine ag (ab 1 rfl (ae [0,1,5,14,15,16] ?_));refine aq (aD rfl (fun hb=> ?_) (fun hb=> ?_))
 ·
  have gn:k<n:=by simpa using hb
  obtain⟨up,Hu,Hv⟩:=BL k _ (hL.p gn);obtain⟨um,zr,Hw⟩:=Ht k _ (hL.mi gn)
  cases Hv
  cases Hw
  have yy:=hL.pw k gn;have XC:=hL.mw k gn;obtain⟨n1,d1,b1,di,eP⟩:=uO _ _ (dM yy);have jg:=hf _ yy;have agk:=mh.le mJ;have amt:=kf.le mJ;have Eg:=(lr.le eM.le).le (bt _ _)
  have agl:cell H2 ((⟨G.g,0,none⟩:Addr).add 2)=some (.slice Ap n cp):=by rw[←sq];exact l6.cell 2 _ rfl
  refine aA (aj [0,1,5,14,15] rfl ?_);refine aq (aG (ag (ab 2 rfl (ae [0,1,5,6,14,15] ?_))));refine ag (ab 5 rfl (aV ah rfl rfl rfl (aT ah rfl rfl rfl (agl) (ab 1 rfl (aS ah rfl rfl rfl rfl rfl (agk) (by rw[Int.toNat_natCast];exact Hu) (by omega) (by omega) fun _=> ?_)))));refine ck (vs:=[.int .i64 n1,.int .i64 d1,.pointer b1]) ah rfl rfl rfl rfl Eg rfl (by decide) (by rw[Int.toNat_natCast];exact eP) (by omega) (by omega) fun _=> ?_;obtain⟨ti,ak,al⟩:=cJ;refine cV (.inl rfl) ah rfl rfl rfl (by omega) (by omega) (eM.aB) rfl (by show 0+n*3≤xs.length;omega) ak al (fun _=>rfl) rfl rfl rfl fun _=> ?_;refine ae [0,1,5,6,14,15] ?_;have kv:fy G.gs H _ z (aM xs (k*3) [.int .i64 n1,.int .i64 d1,.pointer b1]) (n*3) 90:=eM.set (pD (k:=k) (sz:=3))
  have xg:bE (iq bS (rem (ins H2 z {(⟨xs,n*3,90,true⟩:Ent)with xs:=aM xs (0+k*3) [.int .i64 n1,.int .i64 d1,.pointer b1]}) (z::G.gs))) 3 (aM xs (k*3) [.int .i64 n1,.int .i64 d1,.pointer b1]) ((fill (aL l n) k).set k (some (f (L.pF k)))):=by
   rw[cK _ (List.mem_cons_self ..)];exact Qs lq (by rw[nD];exact gn) (di.le eM.le)
  generalize Hz:ins H2 z {(⟨xs,n*3,90,true⟩:Ent)with xs:=aM xs (0+k*3) [.int .i64 n1,.int .i64 d1,.pointer b1]}=H3 at kv xg
  have agm:ins H2 z {(⟨xs,n*3,90,true⟩:Ent)with xs:=aM xs (0+((k:Int)).toNat*3) [.int .i64 n1,.int .i64 d1,.pointer b1]}=H3:=Hz;rw[show ∀e:Ent,e = {(⟨xs,n*3,90,true⟩:Ent)with xs:=aM xs (0+((k:Int)).toNat*3) [.int .i64 n1,.int .i64 d1,.pointer b1]}→ins H2 z e=H3 from fun e he=>by rw[he];exact agm]
  rotate_left
  ·rfl
  have O6:=kv.tab h;have XD:=kf.le kv.hle;have agn:=(lr.le kv.le).le (bt _ _)
  have gN:cell H3 ((⟨G.g,0,none⟩:Addr).add 3)=some (.slice Am n cm):=by rw[←vz];exact O6.cell 3 _ rfl
  refine ag (ab 2 rfl (aV ah rfl rfl rfl (aT ah rfl rfl rfl (gN) (ab 1 rfl (aS ah rfl rfl rfl rfl rfl (XD) (by rw[Int.toNat_natCast];exact zr) (by omega) (by omega) fun _=> ?_)))));refine ab 1 rfl (ae [0,1,5,6,14,15,38] ?_);refine aD rfl (fun hb=> ?_) (fun hb=> ?_)
  ·
   have hb:0≤L.mZ k:=by simpa using hb
   obtain⟨n2,d2,b2,gX,eR⟩:=uO _ _ (dM (show (L.mZ k).toNat<L.w by omega));have j0:=hf (L.mZ k).toNat (by omega)
   have gD:∀(j:Nat)(u:Value),[.int .i64 n1,.int .i64 d1,.pointer b1][j]? = some u→(aM xs (k*3) [.int .i64 n1,.int .i64 d1,.pointer b1])[k*3+j]? = some u:=fun j u hu=>by
    have hj:=(List.getElem?_eq_some_iff.1 hu).1
    simp only[List.length_cons,List.length_nil]at hj
    rw[Py _ _ _ _ (by simp only[List.length_cons,List.length_nil];omega),if_pos (by simp only[List.length_cons,List.length_nil];omega),Nat.add_sub_cancel_left];exact hu
   refine ep .gH [0,1,2,3,4,5,6,7,8,9,10,11,12,13,14,15,16,17,18] follows (by kernel_rfl) ?_;refine ab 4 rfl (ck (vs:=[.int .i64 n1,.int .i64 d1,.pointer b1]) ah rfl rfl rfl rfl (dW kv.aB) rfl (by decide) (by rw[Int.toNat_natCast];exact gD) (by omega) (by omega) fun _=> ?_);refine ab 3 rfl (aV ah rfl rfl rfl (aT ah rfl rfl rfl (gN) (ab 1 rfl (aS ah rfl rfl rfl rfl rfl (XD) (by rw[Int.toNat_natCast];exact zr) (by omega) (by omega) fun _=> ?_))));refine ck (vs:=[.int .i64 n2,.int .i64 d2,.pointer b2]) ah rfl rfl rfl rfl agn rfl (by decide) eR (by omega) (by omega) fun _=>(a8 rfl rfl (Fn.lK (kv.ne h.ne) (DY (N:=N) (di.le kv.le) (gX.le kv.le) jg j0 (by omega))) (fun _ _ h=>by first | exact h.le | exact h.1) ?_);rintro v4 H4 ⟨gp,dV,n4,d4,b4,rfl,cI⟩;have sw:=kv.kept gp
   have amu:(aM xs (k*3) [.int .i64 n1,.int .i64 d1,.pointer b1]).length=n*3:=by rw[FU];exact cP
   obtain⟨ti,ak,al⟩:=cJ;refine cV (.inr rfl) ah rfl rfl rfl (by omega) (by omega) (sw.aB) rfl (by show 0+n*3≤(aM xs (k*3) [.int .i64 n1,.int .i64 d1,.pointer b1]).length;omega) ak al (fun _=>rfl) rfl rfl rfl fun _=> ?_;refine az (aj [0,1,5,14,15] rfl ?_);refine aC rfl (aH rfl rfl ⟨by omega,by omega⟩ (ab 1 rfl (az ?_)));exact⟨k+1,aM (aM xs (k*3) [.int .i64 n1,.int .i64 d1,.pointer b1]) (k*3) [.int .i64 n4,.int .i64 d4,.pointer b4],by omega,au,sw.set pD,by rw[cK _ (List.mem_cons_self ..),←ze (a:=f (L.pF k)-f (L.mZ k).toNat) (by rw[dM gn,hl];unfold dF.vec TL.mF;rw[if_pos hb];rfl),←agj (fill (aL l n) k) k (some (f (L.pF k)))];exact Qs (xg.mono fun vs a=>iq.up jr _ _ vs a gp.le) (by rw[List.length_set,nD];exact gn) cI,by omega⟩
  ·
   have hb:¬0≤L.mZ k:=by simpa using hb
   refine aA (aj [0,1,5,14,15] rfl ?_);refine aC rfl (aH rfl rfl ⟨by omega,by omega⟩ (ab 1 rfl (az ?_)));exact⟨k+1,aM xs (k*3) [.int .i64 n1,.int .i64 d1,.pointer b1],by omega,au,kv,by rw[←ze (a:=f (L.pF k)) (by rw[dM gn,hl];unfold dF.vec TL.mF;rw[if_neg hb];simp only[im];rw[show f (L.pF k)-0=f (L.pF k) by grind])];exact xg,by omega⟩
 ·
  have hb:n≤k:=by simpa using hb
  obtain rfl:k=n:=by omega
  have mj:=eM.done;refine aW (aj [5] rfl ?_);refine ag (vr 1 ?_)
  refine aF rfl rfl (Fn.LI (mj.1.ne h.ne) (W1 (l:=aL l k) ⟨some ⟨z,0,none⟩,k,xs,by rw[bh],by rw[bh];exact Nat.le_refl _,eM.rd,(XA lq).mono fun vs a=>jr _ _ vs a mj.2⟩ (fun q hq=>by
  obtain⟨j,hj,rfl⟩:=List.mem_map.1 hq;have hj:=List.mem_range.1 hj;rw[hl];have h1:=hf _ (hL.pw j hj);have h2:=hL.mw j hj
  unfold dF.vec TL.mF
  split
  ·
   have h3:=hf (L.mZ j).toNat (by omega);have h4:=tC (f (L.pF j)) (f (L.mZ j).toNat)
   simp only[im];omega
  ·
   have h4:=tC (f (L.pF j)) 0;rw[WY]at h4
   simp only[im];omega) (by rw[bh];omega))) ?_
  rintro v9 H9 ⟨gZ,iJ,sx⟩;refine ab 1 rfl (ae [4] ?_);refine aE ⟨.inr rfl,_,.tmp rfl (.nil),?_⟩;exact⟨mj.1.trans gZ,eM.hle.trans iJ,by rw[←hl];exact sx⟩
end Go.aw
namespace Go.aw
open Go.Proofs Num Lp
def zt(T:ar)(k j:Nat):Rat:=bB k (fun i=>if T.B i=j then T.A i T.n else 0)
def BP(T:ar)(s k j:Nat):Rat:=(if j=s then 1 else 0)-bB k (fun i=>if T.B i=j then T.A i s else 0)
theorem ago{T:ar}(hW:T.WF){k:Nat}(hk:k<T.m)(j:Nat):zt T (k+1) j=bY (zt T k) (T.B k) (T.A k T.n) j:=by
 unfold zt bY
 rw[fZ]
 by_cases e:j=T.B k
 ·rw[if_pos e,if_pos e.symm,mP]
  ·grind
  ·intro i hi
   rw[if_neg (fun e'=>by have:=hW.inj (by omega) hk (e'.trans e);omega)]
 ·rw[if_neg e,if_neg (fun e'=>e e'.symm)];grind
theorem agp{T:ar}{j:Nat}(hj:j<T.n):zt T T.m j=T.pt j:=by
 unfold zt ar.pt
 rw[if_neg (by omega)]
theorem agq{T:ar}(hW:T.WF){s k:Nat}(hs:∀i,i<T.m→T.B i≠s)(hk:k<T.m)(j:Nat):BP T s (k+1) j=bY (BP T s k) (T.B k) (-(T.A k s)) j:=by
 unfold BP bY
 rw[fZ]
 by_cases e:j=T.B k
 ·rw[if_pos e,if_pos e.symm,mP,if_neg (fun e'=>hs k hk (by rw[←e,e']))]
  ·grind
  ·intro i hi
   rw[if_neg (fun e'=>by have:=hW.inj (by omega) hk (e'.trans e);omega)]
 ·rw[if_neg e]
  have e2:(if T.B k=j then T.A k s else 0)=0:=if_neg (fun e'=>e e'.symm)
  rw[e2];grind
theorem XE{H:Heap}{G:TG}{L:TL}{T:ar}{n m N:Nat}(h:dG H G L T)(hW:T.WF)(hL:L.Ok n m)(hz:∀j,j<L.w→aP (T.pt j)≤N)(hN:(N:Int)≤274877906944)(hw:(L.w:Int)≤1000000)(hn:(n:Int)≤1000000)(hm:(T.m:Int)≤1000000):
 Fn Tryz.prog 59 #[.pointer (some ⟨G.g,0,none⟩)] H (Ef bX 3 G.gs H (aL (dF.vec L.pF L.mF T.pt) n)):=by
 obtain⟨Ab,cb,dr,_⟩:=h.self.bv;refine aZ (args:=[_]) Tryz.func59 rfl rfl Tryz.ntmps59 rfl rfl fun w0=> ?_;refine aj [0] rfl ?_;refine ag (ab 1 rfl (ae [0] ?_));refine ag (ab 2 rfl (aV ah rfl rfl rfl (aT ah rfl rfl rfl (h.ja) (aF rfl rfl (Hp h.ne (by omega)) ?_))));rintro v1 H1 ⟨cH,z,xs,rfl,kN,iI⟩;have gA:=kN.tab h;refine ab 1 rfl (ae [0,3] ?_);refine aq (ag (ab 2 rfl (aV ah rfl rfl rfl (aT ah rfl rfl rfl (show cell H1 _=some (.slice Ab T.m cb)from by rw[←dr];exact gA.cell 8 _ rfl) ?_))));refine ab 2 rfl (ae [0,3,14,15,16] ?_);refine aG (ij (fun(k:Nat)(xs:List Value)=>T.m-k) (fun(k:Nat)(xs:List Value)=>put (put (put (put (put (emp) 0 (.val (.pointer (some ⟨G.g,0,none⟩)))) 3 (.val (.slice (some ⟨z,0,none⟩) L.w L.w))) 14 (.val (.slice Ab T.m cb))) 15 (.val (.int .i64 (T.m:Int)))) 16 (.val (.int .i64 (k:Int)))) (fun(k:Nat)(xs:List Value) H'=>fy G.gs H H' z xs (L.w*3) 90∧bE (bS (rem H' (z::G.gs))) 3 xs (aL (zt T k) L.w)∧k≤T.m) 0 xs (⟨kN,by rw[lI (f:=zt T 0) (g:=fun _=>0) (fun j _=>rfl)];exact iI _,Nat.zero_le _⟩) au ?_);rintro k xs H2 ⟨eM,lq,fO⟩;have l6:=eM.tab h;have cP:=lq.len;rw[bh]at cP
 refine ag (ab 1 rfl (ae [0,3,14,15,16,17] ?_));refine aq (aD rfl (fun hb=> ?_) (fun hb=> ?_))
 ·
  have lM:k<T.m:=by simpa using hb
  obtain⟨Qm,xe,gD⟩:=l6.rows;obtain⟨pk,qU,y9⟩:=gD k lM;have HA:=hW.lt k lM;rw[h.n]at HA;obtain⟨A3,c3,sy,BQ⟩:=l6.bv;rw[dr]at sy
  obtain⟨rfl,-,rfl⟩:Ab=A3∧T.m=T.m∧cb=c3:=by simpa using sy
  have sj:=l6.cell 6 _ rfl;obtain⟨xw,n1,d1,b1,Ec,di,Hk⟩:=y9.rd (dM (show L.w<L.w+1 by omega));refine aA (aj [0,3,14,15,16] rfl ?_);refine aq (aG (ag (ab 1 rfl (aS ah rfl rfl rfl rfl rfl (BQ) (by rw[Int.toNat_natCast];exact gO lM) (by omega) (by omega) fun _=> ?_))));refine ab 2 rfl (ae [0,3,4,5,14,15,16] ?_);refine ep .gH [0,1,2,3,4,5,6,7,8,9,10,11,12,13,14,15,16] follows (by kernel_rfl) ?_;refine ab 4 rfl (aV ah rfl rfl rfl (aT ah rfl rfl rfl (sj) (ab 1 rfl (aS ah rfl rfl rfl rfl rfl (xe) (by rw[Int.toNat_natCast];exact qU) (by omega) (by omega) fun _=> ?_))));refine ab 2 rfl (aV ah rfl rfl rfl (aT ah rfl rfl rfl (by have:=l6.cell 0 _ rfl;rwa [iX]at this) ?_));refine ck (vs:=[.int .i64 n1,.int .i64 d1,.pointer b1]) ah rfl rfl rfl rfl Ec rfl (by decide) (by rw[Int.toNat_natCast];exact Hk) (by omega) (by omega) fun _=> ?_;obtain⟨ti,ak,al⟩:=cJ;refine cV (.inr rfl) ah rfl rfl rfl (by omega) (by omega) (eM.aB) rfl (by show 0+L.w*3≤xs.length;omega) ak al (fun _=>rfl) rfl rfl rfl fun _=> ?_;refine az (aj [0,3,14,15,16] rfl ?_);refine aC rfl (aH rfl rfl ⟨by omega,by omega⟩ ?_)
  refine ab 1 rfl (az ?_);exact⟨k+1,aM xs (T.B k*3) [.int .i64 n1,.int .i64 d1,.pointer b1],by omega,au,eM.set (by rw[Int.toNat_natCast];exact pD),by rw[cK _ (List.mem_cons_self ..),lI (g:=bY (zt T k) (T.B k) (T.A k T.n)) (fun j _=>ago hW lM j),h.n];exact sk lq HA di,by omega⟩
 ·
  have hb:T.m≤k:=by simpa using hb
  obtain rfl:k=T.m:=by omega
  have mj:=eM.done;rw[lI (g:=T.pt) (fun j hj=>agp (by rw[h.n];exact hj))]at lq;refine aW (aj [0,3] rfl ?_);refine ag (ab 2 rfl (aF rfl rfl (XB (h.kept mj.1) hL (v:= .slice (some ⟨z,0,none⟩) L.w L.w) (f:=T.pt) ⟨some ⟨z,0,none⟩,L.w,xs,by rw[bh],by rw[bh];exact Nat.le_refl _,eM.rd,lq.mono fun vs a=>jr _ _ vs a mj.2⟩ hz hN hw hn) ?_));rintro v9 H9 ⟨gZ,iJ,sx⟩;refine ab 1 rfl (ae [2] ?_);refine aE ⟨.inr rfl,_,.tmp rfl (.nil),?_⟩;exact⟨mj.1.trans gZ,eM.hle.trans iJ,sx⟩
theorem agr{H:Heap}{G:TG}{L:TL}{T:ar}{n m N s:Nat}(h:dG H G L T)(hW:T.WF)(hL:L.Ok n m)(hs:s<L.w)(Eh:∀i,i<T.m→T.B i≠s)(cQ:∀i,i<T.m→aP (T.A i s)≤N)(hz:∀j,j<L.w→aP (T.dir s j)≤N)(hN:(N:Int)≤274877906944)(hw:(L.w:Int)≤1000000)(hn:(n:Int)≤1000000)(hm:(T.m:Int)≤1000000):
 Fn Tryz.prog 60 #[.pointer (some ⟨G.g,0,none⟩),.int .i64 (s:Int)] H (Ef bX 3 G.gs H (aL (dF.vec L.pF L.mF (T.dir s)) n)):=by
 obtain⟨Ab,cb,dr,_⟩:=h.self.bv;refine aZ (args:=[_,_]) Tryz.func60 rfl rfl Tryz.ntmps60 rfl rfl fun w0=> ?_;refine aj [0,1] rfl ?_;refine ag (ab 1 rfl (ae [0,1] ?_));refine ag (ab 2 rfl (aV ah rfl rfl rfl (aT ah rfl rfl rfl (h.ja) (aF rfl rfl (Hp h.ne (by omega)) ?_))));rintro v1 H1 ⟨cH,z,xs,rfl,kN,iI⟩;have ags:=(iI H).len;rw[bh]at ags;refine ab 1 rfl (ae [0,1,5] ?_);refine ag (ab 2 rfl (aF rfl rfl (wS) ?_));rintro v3 H3 ⟨e3,rfl⟩;rw[e3];obtain⟨ti,ak,al⟩:=cJ;refine cV (.inl rfl) ah rfl rfl rfl (by omega) (by omega) (kN.aB) rfl (by show 0+L.w*3≤xs.length;omega) ak al (fun _=>rfl) rfl rfl rfl fun _=> ?_;refine ae [0,1,5] ?_;have Ei:fy G.gs H (ins H1 z {(⟨xs,L.w*3,90,true⟩:Ent)with xs:=aM xs (0+((s:Int)).toNat*3) [.int .i64 1,.int .i64 1,.pointer none]}) z (aM xs (s*3) [.int .i64 1,.int .i64 1,.pointer none]) (L.w*3) 90:=kN.set (by rw[Int.toNat_natCast];exact pD);have gA:=Ei.tab h;refine aq (ag (ab 2 rfl (aV ah rfl rfl rfl (aT ah rfl rfl rfl (show cell _ _=some (.slice Ab T.m cb)from by rw[←dr];exact gA.cell 8 _ rfl) ?_))));refine ab 2 rfl (ae [0,1,5,20,21,22] ?_)
 refine aG (ij (fun(k:Nat)(xs:List Value)=>T.m-k) (fun(k:Nat)(xs:List Value)=>put (put (put (put (put (put (emp) 0 (.val (.pointer (some ⟨G.g,0,none⟩)))) 1 (.val (.int .i64 (s:Int)))) 5 (.val (.slice (some ⟨z,0,none⟩) L.w L.w))) 20 (.val (.slice Ab T.m cb))) 21 (.val (.int .i64 (T.m:Int)))) 22 (.val (.int .i64 (k:Int)))) (fun(k:Nat)(xs:List Value) H'=>fy G.gs H H' z xs (L.w*3) 90∧bE (bS (rem H' (z::G.gs))) 3 xs (aL (BP T s k) L.w)∧k≤T.m) 0 (aM xs (s*3) [.int .i64 1,.int .i64 1,.pointer none]) (⟨Ei,by rw[lI (g:=bY (fun _=>0) s 1) (fun j _=>by unfold BP bY;rw[Bq];split <;> grind)];exact sk (iI _) hs (wR _ (n:=1) (by decide) (by decide)),Nat.zero_le _⟩) au ?_);rintro k xs H2 ⟨eM,lq,fO⟩;have l6:=eM.tab h;have cP:=lq.len;rw[bh]at cP;refine ag (ab 1 rfl (ae [0,1,5,20,21,22,23] ?_));refine aq (aD rfl (fun hb=> ?_) (fun hb=> ?_))
 ·
  have lM:k<T.m:=by simpa using hb
  obtain⟨Qm,xe,gD⟩:=l6.rows;obtain⟨pk,qU,y9⟩:=gD k lM;have HA:=hW.lt k lM;rw[h.n]at HA;obtain⟨A3,c3,sy,BQ⟩:=l6.bv;rw[dr]at sy
  obtain⟨rfl,-,rfl⟩:Ab=A3∧T.m=T.m∧cb=c3:=by simpa using sy
  have sj:=l6.cell 6 _ rfl;obtain⟨xw,n1,d1,b1,Ec,di,Hk⟩:=y9.rd (dM (show s<L.w+1 by omega));have Qg:=cQ k lM;refine aA (aj [0,1,5,20,21,22] rfl ?_);refine aq (aG (ag (ab 1 rfl (aS ah rfl rfl rfl rfl rfl (BQ) (by rw[Int.toNat_natCast];exact gO lM) (by omega) (by omega) fun _=> ?_))));refine ab 2 rfl (ae [0,1,5,6,7,20,21,22] ?_);refine aC rfl (ab 4 rfl (aV ah rfl rfl rfl (aT ah rfl rfl rfl (sj) (ab 1 rfl (aS ah rfl rfl rfl rfl rfl (xe) (by rw[Int.toNat_natCast];exact qU) (by omega) (by omega) fun _=> ?_)))));refine ab 1 rfl (ck (vs:=[.int .i64 n1,.int .i64 d1,.pointer b1]) ah rfl rfl rfl rfl Ec rfl (by decide) (by rw[Int.toNat_natCast];exact Hk) (by omega) (by omega) fun _=> ?_);refine aF rfl rfl (Fn.lK (eM.ne h.ne) (DS di (by omega))) ?_;rintro v4 H4 ⟨gp,dV,n4,d4,b4,rfl,cI⟩;have sw:=eM.kept gp;obtain⟨ti,ak,al⟩:=cJ;refine cV (.inl rfl) ah rfl rfl rfl (by omega) (by omega) (sw.aB) rfl (by show 0+L.w*3≤xs.length;omega) ak al (fun _=>rfl) rfl rfl rfl fun _=> ?_;refine az (aj [0,1,5,20,21,22] rfl ?_);refine aC rfl (aH rfl rfl ⟨by omega,by omega⟩ (vr 1 ?_))
  refine az ?_;exact⟨k+1,aM xs (T.B k*3) [.int .i64 n4,.int .i64 d4,.pointer b4],by omega,au,sw.set (by rw[Int.toNat_natCast];exact pD),by rw[cK _ (List.mem_cons_self ..),lI (g:=bY (BP T s k) (T.B k) (-(T.A k s))) (fun j _=>agq hW Eh lM j)];exact sk (lq.mono fun vs a=>jr _ _ vs a gp.le) HA cI,by omega⟩
 ·
  have hb:T.m≤k:=by simpa using hb
  obtain rfl:k=T.m:=by omega
  have mj:=eM.done;rw[lI (f:=BP T s T.m) (g:=T.dir s) (fun j hj=>rfl)]at lq;refine aW (aj [0,5] rfl ?_);refine ag (ab 2 rfl (aF rfl rfl (XB (h.kept mj.1) hL (v:= .slice (some ⟨z,0,none⟩) L.w L.w) (f:=T.dir s) ⟨some ⟨z,0,none⟩,L.w,xs,by rw[bh],by rw[bh];exact Nat.le_refl _,eM.rd,lq.mono fun vs a=>jr _ _ vs a mj.2⟩ hz hN hw hn) ?_));rintro v9 H9 ⟨gZ,iJ,sx⟩;refine ab 1 rfl (ae [4] ?_);refine aE ⟨.inr rfl,_,.tmp rfl (.nil),?_⟩;exact⟨mj.1.trans gZ,eM.hle.trans iJ,sx⟩
theorem XF{H:Heap}{G:TG}{L:TL}{T:ar}{n m N:Nat}{v:Value}{f:Nat→Rat}(h:dG H G L T)(hc:iZ H G L T)(hL:L.Ok n m)(hv:aR bS 3 (rem H G.gs) v (aL f L.w))(hf:∀j,j<L.w→aP (f j)≤N)(LM:∀j,j<L.w→aP (T.c j)≤N)(hN:(N:Int)≤274877906944)(hw:(L.w:Int)≤1000000)(hm:(m:Int)≤1000000):
 Fn Tryz.prog 54 #[.pointer (some ⟨G.g,0,none⟩),v] H (Ef bX 3 G.gs H (aL (fun i=>L.sF i*(f (L.uF i)-T.c (L.uF i))) m)):=by
 obtain⟨Av,cv,xv,rfl,lr,uO⟩:=hv.num
 rw[bh]
 have Hs:=h.self
 obtain⟨Au,cu,xu,HB,hru,hxu⟩:=Hs.ku.one
 obtain⟨As,cs,xs5,wz,yS,Kt⟩:=Hs.ke.num
 rw[hL.Qn]at HB
 rw[hL.Qo]at wz
 obtain⟨l,hl⟩:∃l,l=(fun i=>L.sF i*(f (L.uF i)-T.c (L.uF i))):=⟨_,rfl⟩
 have vy:∀i,i<m→aP (l i)≤2*N+2:=fun i hi=>by
  have h1:=hf _ (hL.uw i hi)
  have h2:=LM _ (hL.uw i hi)
  have h3:=hL.s1 i hi
  have h4:=tC (f (L.uF i)) (T.c (L.uF i))
  have h5:=vp (L.sF i) (f (L.uF i)-T.c (L.uF i))
  rw[hl];show aP (L.sF i*(f (L.uF i)-T.c (L.uF i)))≤_
  omega
 have dV:cell H ((⟨G.g,0,none⟩:Addr).add 4)=some (.slice Au m cu):=by rw[←HB];exact h.cell rfl
 obtain⟨gc,cc,G6,bm,BN⟩:=id hc
 have kg:gc∈G.gs:=TG.zo (by rw[G6];exact List.mem_singleton.2 rfl);refine aZ (args:=[_,_]) Tryz.func54 rfl rfl Tryz.ntmps54 rfl rfl fun w0=> ?_;refine aj [0,1] rfl ?_;refine ag (ab 1 rfl (ae [0,1] ?_));refine ag (ab 2 rfl (aV ah rfl rfl rfl (aT ah rfl rfl rfl (dV) (ab 1 rfl (gJ Tryz.underlying85 fk rfl rfl rfl (by omega) (by omega) (by omega) (by omega) ?_)))));intro z js;rw[show ((m:Int)).toNat=m from by omega];have kN:fy G.gs H _ z (cD [.int .i64 0,.int .i64 0,.pointer none] (m*3)) (m*3) 90:=fy.new h.ne js
 have iI:bE (iq bS (rem (ins H z ⟨cD [.int .i64 0,.int .i64 0,.pointer none] (m*3),m*3,90,true⟩) (z::G.gs))) 3 (cD [.int .i64 0,.int .i64 0,.pointer none] (m*3)) (fill (aL l m) 0):=by have:=BE (P:=bS) (H:=rem (ins H z ⟨cD [.int .i64 0,.int .i64 0,.pointer none] (m*3),m*3,90,true⟩) (z::G.gs)) (zs:=[.int .i64 0,.int .i64 0,.pointer none]) (sz:=3) (by rfl) (aL l m);rwa [bh]at this
 have gA:=kN.tab h;refine ab 1 rfl (ae [0,1,5] ?_);refine aq (ag (ab 2 rfl (aV ah rfl rfl rfl (aT ah rfl rfl rfl (show cell _ _=some (.slice Au m cu)from by rw[←HB];exact gA.cell 4 _ rfl) ?_))));refine ab 2 rfl (ae [0,1,5,17,18,19] ?_);refine aG (ij (fun(k:Nat)(xs:List Value)=>m-k) (fun(k:Nat)(xs:List Value)=>put (put (put (put (put (put (emp) 0 (.val (.pointer (some ⟨G.g,0,none⟩)))) 1 (.val (.slice Av L.w cv))) 5 (.val (.slice (some ⟨z,0,none⟩) m m))) 17 (.val (.slice Au m cu))) 18 (.val (.int .i64 (m:Int)))) 19 (.val (.int .i64 (k:Int)))) (fun(k:Nat)(xs:List Value) H'=>fy G.gs H H' z xs (m*3) 90∧bE (iq bS (rem H' (z::G.gs))) 3 xs (fill (aL l m) k)∧k≤m) 0 _ (⟨kN,iI,Nat.zero_le _⟩) au ?_);rintro k xs H2 ⟨eM,lq,fO⟩;have nD:=nC (l:=aL l m) (k:=k) (by rw[bh];exact fO);rw[bh]at nD;have cP:=lq.len;rw[nD]at cP;have l6:=eM.tab h;have mJ:=eM.hle;refine ag (ab 1 rfl (ae [0,1,5,17,18,19,20] ?_));refine aq (aD rfl (fun hb=> ?_) (fun hb=> ?_))
 ·
  have gn:k<m:=by simpa using hb
  obtain⟨uu,huu,agt⟩:=hxu k _ (hL.u gn)
  cases agt
  have mU:=hL.uw k gn;obtain⟨n1,d1,b1,di,eP⟩:=uO _ _ (dM mU);obtain⟨n2,d2,b2,gX,eR⟩:=Kt k _ (hL.s gn);obtain⟨xc,n3,d3,b3,om,j7,gD⟩:=(BN.le eM.le (eM.same gc kg)).rd (dM (show L.uF k<L.w+1 by omega));have jg:=hf _ mU;have yE:=LM _ mU;have j0:=hL.s1 k gn;have Eg:=(lr.le eM.le).le (bt _ _);have agu:=(yS.le eM.le).le (bt _ _);have agv:=hru.le mJ
  have gq:cell H2 ((⟨G.g,0,none⟩:Addr).add 5)=some (.slice As m cs):=by rw[←wz];exact l6.cell 5 _ rfl
  have pC:cell H2 ((⟨G.g,0,none⟩:Addr).add 7)=some (.slice (some ⟨gc,0,none⟩) (L.w+1) cc):=by rw[←bm];exact l6.cell 7 _ rfl
  refine aA (aj [0,1,5,17,18,19] rfl ?_);refine aq (aG (ag (ab 1 rfl (aS ah rfl rfl rfl rfl rfl (agv) (by rw[Int.toNat_natCast];exact huu) (by omega) (by omega) fun _=> ?_))));refine ab 2 rfl (ae [0,1,5,6,7,17,18,19] ?_);refine ep .gH [0,1,2,3,4,5,6,7,8,9,10,11,12,13,14,15,16,17,18,19,20,21,22,23] follows (by kernel_rfl) ?_;refine ab 4 rfl (aV ah rfl rfl rfl (aT ah rfl rfl rfl (gq) (ab 1 rfl (ck (vs:=[.int .i64 n2,.int .i64 d2,.pointer b2]) ah rfl rfl rfl rfl agu rfl (by decide) (by rw[Int.toNat_natCast];exact eR) (by omega) (by omega) fun _=> ?_))));refine ab 2 rfl (ck (vs:=[.int .i64 n1,.int .i64 d1,.pointer b1]) ah rfl rfl rfl rfl Eg rfl (by decide) (by rw[Int.toNat_natCast];exact eP) (by omega) (by omega) fun _=> ?_);refine ab 2 rfl (aV ah rfl rfl rfl (aT ah rfl rfl rfl (pC) (ab 1 rfl (ck (vs:=[.int .i64 n3,.int .i64 d3,.pointer b3]) ah rfl rfl rfl rfl om rfl (by decide) (by rw[Int.toNat_natCast];exact gD) (by omega) (by omega) fun _=> ?_))));refine a8 rfl rfl (Fn.lK (eM.ne h.ne) (DY (N:=N) (di.le eM.le) j7 jg yE (by omega))) (fun _ _ h=>by first | exact h.le | exact h.1) ?_
  rintro v4 H4 ⟨gp,amv,n4,d4,b4,rfl,cI⟩;have sw:=eM.kept gp;have LN:=tC (f (L.uF k)) (T.c (L.uF k));refine a8 rfl rfl (Fn.lK (sw.ne h.ne) (GR (N:=2*N+2) (gX.le sw.le) cI (by omega) (by omega) (by omega))) (fun _ _ h=>by first | exact h.le | exact h.1) ?_;rintro v5 H5 ⟨mR,amw,n5,d5,b5,rfl,eW⟩;have sA:=sw.kept mR;obtain⟨ti,ak,al⟩:=cJ;refine cV (.inr rfl) ah rfl rfl rfl (by omega) (by omega) (sA.aB) rfl (by show 0+m*3≤xs.length;omega) ak al (fun _=>rfl) rfl rfl rfl fun _=> ?_;refine az (aj [0,1,5,17,18,19] rfl ?_);refine aC rfl (aH rfl rfl ⟨by omega,by omega⟩ (ab 1 rfl (az ?_)));exact⟨k+1,aM xs (k*3) [.int .i64 n5,.int .i64 d5,.pointer b5],by omega,au,sA.set pD,by rw[cK _ (List.mem_cons_self ..),←ze (a:=L.sF k*(f (L.uF k)-T.c (L.uF k))) (by rw[dM gn,hl])];exact Qs (lq.mono fun vs a=>iq.up jr _ _ vs a (gp.le.trans mR.le)) (by rw[nD];exact gn) eW,by omega⟩
 ·
  have hb:m≤k:=by simpa using hb
  obtain rfl:k=m:=by omega
  have mj:=eM.done;refine aW (aj [5] rfl ?_);refine ag (vr 1 ?_)
  refine aF rfl rfl (Fn.LI (mj.1.ne h.ne) (W1 (l:=aL l k) ⟨some ⟨z,0,none⟩,k,xs,by rw[bh],by rw[bh];exact Nat.le_refl _,eM.rd,(XA lq).mono fun vs a=>jr _ _ vs a mj.2⟩ (fun q hq=>by
  obtain⟨j,hj,rfl⟩:=List.mem_map.1 hq;have:=vy j (List.mem_range.1 hj)
  omega) (by rw[bh];omega))) ?_
  rintro v9 H9 ⟨gZ,iJ,sx⟩;refine ab 1 rfl (ae [4] ?_);refine aE ⟨.inr rfl,_,.tmp rfl (.nil),?_⟩;exact⟨mj.1.trans gZ,eM.hle.trans iJ,by rw[←hl];exact sx⟩
end Go.aw
namespace Go.aw
open Go.Proofs Num Lp
def gQ(T:ar)(f:Nat→Rat)(k j:Nat):Rat:=(if j=T.n then 0 else f j)-bB k (fun i=>f (T.B i)*T.A i j)
theorem agw(T:ar)(f:Nat→Rat)(k j:Nat):gQ T f (k+1) j=gQ T f k j-f (T.B k)*T.A k j:=by
 unfold gQ;rw[fZ];grind
theorem xh(f:Nat→Rat)(n:Nat):aL f (n+1)=aL f n ++ [f n]:=by
 unfold aL;rw[List.range_succ,List.map_append];rfl
theorem agx(f:Nat→Rat)(n:Nat):aL f n ++ [0]=aL (fun j=>if j=n then 0 else f j) (n+1):=by
 rw[xh,lI (f:=fun j=>if j=n then 0 else f j) (g:=f) (fun j hj=>by show (if j=n then 0 else f j)=f j;rw[if_neg (by omega)]),if_pos rfl]
theorem agy{α:Type}{P:List Value→α→Prop}{sz:Nat}{xs:List Value}{l:List α}(h:bE P sz xs l)(hp:0<sz∧∀vs a,P vs a→∀u,u∈vs→u.oneCell'=true):∀u,u∈xs→u.oneCell'=true:=fun u hu=>by
 obtain⟨i,hi⟩:=List.getElem?_of_mem hu
 have bL:=(List.getElem?_eq_some_iff.1 hi).1
 rw[h.len]at bL
 have he:i/sz<l.length:=Nat.div_lt_of_lt_mul (by rw[Nat.mul_comm];exact bL)
 have hq:=h.at_ (i/sz) _ (List.getElem?_eq_getElem he)
 refine hp.2 _ _ hq u ?_
 have:(gC xs (i/sz) sz)[i%sz]? = some u:=by
  unfold gC
  rw[List.getElem?_take,if_pos (Nat.mod_lt _ hp.1),List.getElem?_drop,Nat.div_add_mod'];exact hi
 exact List.mem_of_getElem? this
theorem agz{K:Heap}:0<3∧∀vs a,bS K vs a→∀u,u∈vs→u.oneCell'=true:=⟨by decide,fun vs a h u hu=>by
 obtain⟨n,d,b,rfl⟩:=h.cells
 simp only[List.mem_cons,List.not_mem_nil,or_false]at hu
 rcases hu with rfl | rfl | rfl <;> rfl⟩
def TG.eU(G:TG)(v:Value)(gc:Nat):TG:={G with cv:=v,cb:=[gc]}
theorem dG.agA{H:Heap}{G:TG}{L:TL}{T:ar}(h:dG H G L T){H3:Heap}{v:Value}{gc:Nat}{e:Ent}(kg:H gc=none)(hle:Heap.le (rem H G.gs) (rem (ins H3 G.g e) (G.eU v gc).gs))(hs:∀q,q∈G.gs→H3 q=H q)(h3:H3 gc≠none)(he:e=⟨(G.eU v gc).cells L.w L.u T.m,9,97,true⟩):
  dG (ins H3 G.g e) (G.eU v gc) L T:=by
 have a7:∀q,q∈G.gs→q≠gc:=fun q hq e=>h.ne q hq (by rw[e];exact kg)
 have zj:G.g≠gc:=a7 _ G.se
 have qO:∀q,q∈G.gs→q≠G.g→ins H3 G.g e q=H q:=fun q hq hn=>by rw[bg _ _ hn];exact hs q hq
 refine⟨h.n,h.uw,by show ins H3 G.g e G.g=_;rw[bF,he],?_,h.iH,?_,fun i p hp=> ?_,?_,h.plus.le mS hle,h.minus.le vx hle,h.ku.le mS hle,h.ke.le jr hle,fun q hq=> ?_⟩
 ·have dX:=h.nd
  unfold TG.gs at dX⊢
  show (G.g::([gc]++(G.bb++G.rg.map (·.1)))).Nodup
  rw[List.nodup_cons,List.nodup_append]at dX
  have lC:∀q,q∈G.bb++G.rg.map (·.1)→q∈G.gs:=fun q hq=>List.mem_cons_of_mem _ (List.mem_append_right _ hq)
  rw[List.nodup_cons,List.nodup_append]
  refine⟨fun hm=> ?_,(by simp),dX.2.2.1,fun a ha b hb=> ?_⟩
  ·rcases List.mem_append.1 hm with hm | hm
   ·exact zj (List.mem_singleton.1 hm)
   ·exact dX.1 (List.mem_append_right _ hm)
  ·rw[List.mem_singleton]at ha
   rw[ha];exact fun e=>a7 b (lC b hb) e.symm
 ·obtain⟨xs,h1,h2⟩:=h.rows
  exact⟨xs,h1.le hle,h2⟩
 ·have yJ:G.rg[i]? = some p:=hp
  exact(h.row i p yJ).le hle (qO _ (TG.gP yJ) (fun e=>TG.BJ h.nd (.inr (.inr ⟨i,p,yJ,rfl⟩)) e.symm))
 ·rcases h.basis with h1 | ⟨gb,cb,sz,h1,h2,h4⟩
  ·exact .inl h1
  ·have hm:gb∈G.bb:=by rw[h1];exact List.mem_singleton.2 rfl
   exact .inr ⟨gb,cb,sz,h1,h2,by rw[qO _ (TG.mT hm) (fun e=>TG.BJ h.nd (.inr (.inl hm)) e.symm)];exact h4⟩
 ·have:q=gc:=List.mem_singleton.1 hq
  rw[this,bg _ _ (Ne.symm zj)];exact h3
theorem TG.agB{G:TG}{v:Value}{gc q:Nat}(h:q∈(G.eU v gc).gs):q=gc∨q∈G.gs:=by
 unfold TG.gs at h
 rcases List.mem_cons.1 h with h | h
 ·exact .inr (by rw[h];exact G.se)
 ·rcases List.mem_append.1 h with h | h
  ·exact .inl (List.mem_singleton.1 h)
  ·exact .inr (List.mem_cons_of_mem _ (List.mem_append_right _ h))
theorem agC{H H3:Heap}{G:TG}{v:Value}{gc:Nat}{e:Ent}(kg:H gc=none)(hle:Heap.le (rem H G.gs) (rem H3 G.gs)):Heap.le (rem H G.gs) (rem (ins H3 G.g e) (G.eU v gc).gs):=fun q en hq=>by
 have hm:¬q∈G.gs:=fun hm=>by rw[rem_in hm]at hq;cases hq
 have Qt:q≠gc:=fun e=>by rw[bM hm,e,kg]at hq;cases hq
 obtain⟨e',h1,h2⟩:=hle q en hq
 refine⟨e',?_,h2⟩
 rw[bM (fun h=>by rcases TG.agB h with h | h;exact Qt h;exact hm h),bg _ _ (fun e=>hm (by rw[e];exact G.se))]
 rwa [bM hm]at h1
theorem XG{H:Heap}{G:TG}{L:TL}{T:ar}{N:Nat}{v:Value}{f:Nat→Rat}(h:dG H G L T)(hv:aR bS 3 (rem H G.gs) v (aL f L.w))(hB:∀i,i<T.m→T.B i<L.w)(hN:(N:Int)≤549755813888)(hw:(L.w:Int)≤1000000)(hm:(T.m:Int)≤1000000)
 (hf:∀j,j<L.w→aP (f j)≤N) (hA:∀i,i<T.m→∀j,j≤L.w→aP (T.A i j)≤N) (hp:∀k,k≤T.m→∀j,j≤L.w→aP (gQ T f k j)≤N):
 Fn Tryz.prog 49 #[.pointer (some ⟨G.g,0,none⟩),v] H (fun _ H'=>∃cv gc,H gc=none∧dG H' (G.eU cv gc) L {T with c:=gQ T f T.m}∧iZ H' (G.eU cv gc) L {T with c:=gQ T f T.m}∧Heap.le (rem H G.gs) (rem H' (G.eU cv gc).gs)):=by
 obtain⟨Av,cv0,xv,rfl,agD,lr,zu⟩:=hv
 rw[bh]at agD
 rw[bh]
 have XH:=zu.len
 rw[bh]at XH
 have Qe:=h.n;refine aZ (args:=[_,_]) Tryz.func49 rfl rfl Tryz.ntmps49 rfl rfl fun w0=> ?_;refine aj [0,1] rfl ?_;refine ag (ab 2 rfl (dK Tryz.underlying85 fk rfl rfl (lB _ 90 3) (lr.le (bt _ _)) (XH) (agy zu agz) (by omega) (by omega) ?_));intro v1 H1 zv;rw[List.nil_append,Nat.zero_add]at zv;obtain⟨fa,lE⟩:=zv.rem (gs:=G.gs) h.ne (fun q _ e=>by cases e);have amx:=fa.own;refine aF rfl rfl (wS) ?_;rintro v2 H2 ⟨e2,rfl⟩;rw[e2];refine cR Tryz.underlying85 fk rfl rfl rfl rfl rfl rfl rfl ?_;intro gz xt;have Qu:¬gz∈G.gs:=fun hm=>h.ne gz hm (by rw[←lE gz hm];exact xt)
 have pb:∀q,q∈G.gs→ins H1 gz (whole (cF [N3 0 1 none]) 90) q=H q:=fun q hq=>by rw[bg _ _ (fun e=>Qu (by rw[←e];exact hq))];exact lE q hq
 refine dK Tryz.underlying85 fk rfl rfl (zv.own.ins _ xt) (dE _ _ _ _ _ _) (rfl) (by decide) (by omega) (by omega) ?_;intro v3 H3 Qw
 obtain⟨ny,LO⟩:=Qw.rem (gs:=G.gs) (fun q hq=>by rw[pb q hq];exact h.ne q hq) (fun q hq e=>by
  rcases zv.at_ with h9 | ⟨g9,h9,jP⟩
  ·rw[h9]at e;cases e
  ·rw[h9]at e;cases e;exact h.ne _ hq jP)
 obtain⟨gc,cc,rfl,XI,LQ⟩:∃gc cc,v3 = .slice (some ⟨gc,0,none⟩) (L.w+1) cc∧H3 gc=some ⟨xv++cF [N3 0 1 none],cc*3,90,true⟩∧H gc=none:=by
  rcases Qw.own.2 with h9 | ⟨g9,c9,h9,jP,_⟩
  ·omega
  ·
   refine⟨g9,c9,h9,jP,?_⟩
   rcases Qw.at_ with ji | ⟨g11,ji,AT⟩
   ·
    rw[h9]at ji
    rcases zv.at_ with ot | ⟨g13,ot,Ej⟩
    ·rw[ot]at ji;cases ji
    ·rw[ot]at ji;cases ji;exact Ej
   rw[h9]at ji
   cases ji
   have zw:=(Bf AT).2
   cases hh:H g9 with
   | none=>rfl
   | some en=>(obtain⟨e',XJ,_⟩:=zv.le g9 en hh;rw[zw]at XJ;cases XJ)
 have XK:∀q,q∈G.gs→H3 q=H q:=fun q hq=>(LO q hq).trans (pb q hq);have iD:Heap.le (rem H G.gs) (rem H3 G.gs):=(fa.le.trans (by rw[rY _ Qu];exact Heap.bC _ (by rw[bM Qu];exact xt))).trans ny.le
 have agE:H3 G.g=some ⟨G.cells L.w L.u T.m,9,97,true⟩:=by rw[XK _ G.se];exact h.st
 refine ab 1 rfl (aV ah rfl rfl rfl ?_);obtain⟨ti,ak,al⟩:=Gg;refine ma (g:=G.g) (o:=7) (.inl rfl) rfl agE rfl (by show 7+1≤9;omega) ak al rfl rfl rfl rfl ?_;have kM:=agC (v:= .slice (some ⟨gc,0,none⟩) (L.w+1) cc) (e:={(⟨G.cells L.w L.u T.m,9,97,true⟩:Ent)with xs:=aM (G.cells L.w L.u T.m) 7 [.slice (some ⟨gc,0,none⟩) (L.w+1) cc]}) LQ iD;have h4:=h.agA (v:= .slice (some ⟨gc,0,none⟩) (L.w+1) cc) LQ kM XK (by rw[XI];simp) rfl;have zj:gc≠G.g:=fun e=>h.ne _ G.se (by rw[←e];exact LQ)
 have XL:ins H3 G.g {(⟨G.cells L.w L.u T.m,9,97,true⟩:Ent)with xs:=aM (G.cells L.w L.u T.m) 7 [.slice (some ⟨gc,0,none⟩) (L.w+1) cc]} gc=some ⟨xv++cF [N3 0 1 none],cc*3,90,true⟩:=by rw[bg _ _ zj];exact XI
 generalize ins H3 G.g {(⟨G.cells L.w L.u T.m,9,97,true⟩:Ent)with xs:=aM (G.cells L.w L.u T.m) 7 [.slice (some ⟨gc,0,none⟩) (L.w+1) cc]}=H4 at kM h4 XL
 refine ae [0,1] ?_
 have XM:bE (bS (rem H4 (G.eU (.slice (some ⟨gc,0,none⟩) (L.w+1) cc) gc).gs)) 3 (xv++cF [N3 0 1 none]) (aL (gQ T f 0) (L.w+1)):=by
  rw[lI (f:=gQ T f 0) (g:=fun j=>if j=L.w then 0 else f j) (fun j _=>by unfold gQ;rw[Bq,Qe];grind),←agx];exact(zu.mono fun vs a=>jr _ _ vs a kM).append (iE (wR _ (n:=0) (by decide) (by decide)) rfl)
 obtain⟨G',vA⟩:∃G',G'=G.eU (.slice (some ⟨gc,0,none⟩) (L.w+1) cc) gc:=⟨_,rfl⟩;rw[←vA]at kM h4 XM
 have BR:G'.g=G.g:=by rw[vA];rfl
 have pc:iZ H4 G' L {T with c:=gQ T f 0}:=⟨gc,cc,by rw[vA];rfl,by rw[vA];rfl,_,_,XL,XM⟩;have h4':dG H4 G' L {T with c:=gQ T f 0}:=h4.congr rfl rfl (fun _ _ _ _=>rfl) (fun _ _=>rfl);obtain⟨Ab,cb,dr,_⟩:=h4.self.bv
 have zq:cell H4 ((⟨G.g,0,none⟩:Addr).add 8)=some (.slice Ab T.m cb):=by rw[←dr,←BR];exact h4.cell rfl
 refine ag (ab 2 rfl (aV ah rfl rfl rfl (aT ah rfl rfl rfl (zq) (ab 2 rfl (ae [0,1,17,18,19] ?_)))));refine aG (gK (fun(k:Nat)=>T.m-k) (fun(k:Nat)=>put (put (put (put (put (emp) 0 (.val (.pointer (some ⟨G.g,0,none⟩)))) 1 (.val (.slice Av L.w cv0))) 17 (.val (.slice Ab T.m cb))) 18 (.val (.int .i64 (T.m:Int)))) 19 (.val (.int .i64 (k:Int)))) (fun(k:Nat) H'=>dG H' G' L {T with c:=gQ T f k}∧iZ H' G' L {T with c:=gQ T f k}∧Heap.le (rem H G.gs) (rem H' G'.gs)∧k≤T.m) 0 (⟨h4',pc,kM,Nat.zero_le _⟩) au ?_);rintro k H5 ⟨h5,nG,iY,mR⟩;obtain⟨A2,c2,Hr,Gz⟩:=h5.self.bv;rw[dr]at Hr
 obtain⟨rfl,-,rfl⟩:Ab=A2∧T.m=T.m∧cb=c2:=by simpa using Hr
 refine ag (ab 1 rfl (ae [0,1,17,18,19,20] ?_));refine aq (aD rfl (fun hb=> ?_) (fun hb=> ?_))
 ·
  have lM:k<T.m:=by simpa using hb
  have XN:=hB k lM;obtain⟨pk,qU⟩:=h5.get (i:=k) lM;obtain⟨vs0,_,jE,jo⟩:=zu.get (dM XN);obtain⟨n1,d1,b1,rfl⟩:=jE.cells;obtain⟨gc',cc',amy,amz,amA⟩:=id nG
  have pC:cell H5 ((⟨G.g,0,none⟩:Addr).add 7)=some G'.cv:=by rw[←BR];exact h5.cell rfl
  refine aA (aj [0,1,17,18,19] rfl ?_);refine aq (aG (ag (ab 1 rfl (aS ah rfl rfl rfl rfl rfl (Gz) (by rw[Int.toNat_natCast];exact gO (B:=T.B) lM) (by omega) (by omega) fun _=> ?_))));refine ab 2 rfl (ae [0,1,4,5,17,18,19] ?_);refine ep .uM [0,1,2,3,4,5,6,7,8,9,10] follows (by kernel_rfl) ?_;refine ab 3 rfl (aV ah rfl rfl rfl (aT ah rfl rfl rfl (pC) (ab 3 rfl (ck (vs:=[.int .i64 n1,.int .i64 d1,.pointer b1]) ah rfl rfl rfl rfl ((lr.le iY).le (bt _ _)) rfl (by decide) (by rw[Int.toNat_natCast];exact jo) (by omega) (by omega) fun _=> ?_))));refine Wj rfl rfl (by rw[←BR];exact Xe (N:=N) h5 nG qU (jE.le iY) hN hw (hf _ XN) (fun j hj=>hp k (by omega) j hj) (fun j hj=>hA k lM j hj)) ?_;rintro v6 H6 ⟨h6,qV,sh⟩;refine az (aj [0,1,17,18,19] rfl ?_);refine aC rfl (aH rfl rfl ⟨by omega,by omega⟩ (ab 1 rfl (az ?_)));exact⟨k+1,by omega,au,h6.congr rfl rfl (fun _ _ _ _=>rfl) (fun _ _=>rfl),qV.congr (fun j _=>agw T f k j),iY.trans sh,by omega⟩
 ·
  have hb:T.m≤k:=by simpa using hb
  obtain rfl:k=T.m:=by omega
  refine aW ?_;refine⟨.inl rfl,_,.nil,?_⟩;exact⟨_,gc,LQ,by rw[←vA];exact h5,by rw[←vA];exact nG,by rw[←vA];exact iY⟩
end Go.aw
namespace Go.aw
open Go
section
variable {P:Program} {n:Nat} {tb:Tb} {all:Array Oper} {s:St} {H:Heap} {md:Mode} {K:St→Heap→Prop} {r:List Oper} {dst:Option Nat} {ty:TypeId} {pos:String} {after:Array Edge} {gd:Option (Nat×Bool)} {kc:Addr→Option Value}
theorem Ek{op:Op}(v:Value)(hm:rI op=false)(hc:(Mode.cO kc).fN H)(hg:cj all s gd=some true)(nb:jy s dst=true)
  (h:∀a w,gG n s a→(∀ad u,kc ad=some u→w.cell? ad=some u)→(execOp a.eval ⟨dst,op,ty,pos,after,gd⟩).run P w = .ok (.value v) w) (k:aQ P n all (.cO kc) r (bA s dst (.val v)) H K):aQ P n all (.cO kc) (⟨dst,op,ty,pos,after,gd⟩::r) s H K:=
 .mD v rfl hm nb hc (fun a w ha hd=> .inl ⟨jY ha (lA (o:=⟨dst,op,ty,pos,after,gd⟩) hg),h a w ha hd⟩) k
theorem eN{x:Operand}{v:Value}(hc:(Mode.cO kc).fN H)(hx:ev s x=some v)(hk:aQ P n all (.cO kc) r (bA s dst (.val v)) H K)(hg:cj all s gd=some true:=by rfl)(nb:jy s dst=true:=by rfl):aQ P n all (.cO kc) (⟨dst,.move x,ty,pos,after,gd⟩::r) s H K:=
 Ek v rfl hc hg nb (fun a w ha _=>by simp[execOp,bT ha hx]) hk
theorem ml{x:Operand}{ad:Addr}(hc:(Mode.cO kc).fN H)(hx:ev s x=some (.pointer (some ad)))(hk:aQ P n all (.cO kc) r (bA s dst (.val (.pointer (some ad)))) H K)(hg:cj all s gd=some true:=by rfl)(nb:jy s dst=true:=by rfl):aQ P n all (.cO kc) (⟨dst,.nilCheck x,ty,pos,after,gd⟩::r) s H K:=
 Ek _ rfl hc hg nb (fun a w ha _=>by simp[execOp,bT ha hx]) hk
theorem mm{t:TypeId}{x:Operand}{f:Nat}{ad:Addr}{m o z:Nat}{ps:List (Nat×Nat)}(hc:(Mode.cO kc).fN H)(dt:jZ P tb)(ht:tb[t]? = some (.st m ps))(hf:ps[f]? = some (o,z))(hx:ev s x=some (.pointer (some ad)))
  (hk:aQ P n all (.cO kc) r (bA s dst (.val (.pointer (some (ad.add o))))) H K) (hg:cj all s gd=some true:=by rfl) (nb:jy s dst=true:=by rfl):aQ P n all (.cO kc) (⟨dst,.fieldAddr t x f,ty,pos,after,gd⟩::r) s H K:=
 Ek _ rfl hc hg nb (fun a w ha _=>by
  obtain⟨fs,ii,hu,h2,h3,_,h4⟩:=dt t _ ht
  obtain⟨fd,jj,h5,h6,h7,h9,jP⟩:=h4 f _ hf
  have h8:jj.size≠0:=by rw[h9];exact jP
  simp only at h6
  simp[execOp,bT ha hx,Instr.fieldAt,run_underlying hu,h5,Instr.sureAddr,Kn h7 h8,h6]) hk
theorem ki{t:TypeId}{x:Operand}{ad:Addr}{ti:Ti}{v:Value}(hc:(Mode.cO kc).fN H)(dt:jZ P tb)(ht:tb[t]? = some ti)(h1:yC ti=true)(hx:ev s x=some (.pointer (some ad)))(hv:kc ad=some v)
  (hk:aQ P n all (.cO kc) r (bA s dst (.val v)) H K) (hg:cj all s gd=some true:=by rfl) (nb:jy s dst=true:=by rfl):aQ P n all (.cO kc) (⟨dst,.load t x,ty,pos,after,gd⟩::r) s H K:=
 Ek _ rfl hc hg nb (fun a w ha hd=>by simp[execOp,bT ha hx,Instr.loadAt,Instr.sureAddr,OB (dt t _ ht) h1 (hd ad v hv)]) hk
theorem El{f:Operand}{kX:FuncId}{cap args:List Value}{xs:List Operand}{ts:Array TypeId}{bG:Value→Heap→Prop}(hf:ev s f=some (.func (.func kX) #[] cap.toArray))(hx:qF s xs=some args)
  (h:Fn P kX (args++cap).toArray H bG) (hm:∀v H',bG v H'→(Mode.cO kc).fN H') (hk:∀v H',bG v H'→aQ P n all (.cO kc) r (bA s dst (.val v)) H' K) (hg:cj all s gd=some true:=by rfl) (nb:jy s dst=true:=by rfl):aQ P n all (.cO kc) (⟨dst,.call ⟨.value f,xs.toArray,ts⟩,ty,pos,after,gd⟩::r) s H K:=
 .m9 bG rfl (.inl FX) nb (FW (cap:=cap) hf hx hg h) (.inr hm) fun v H' hp _=>hk v H' hp
theorem Em{t e bytes:Nat}{x:Operand}{z v:Value}(ht:P.underlying t=some (.slice e))(he:fX P e 1 z bytes)(hx:ev s x=some v)(hv:v.cells = #[v])
  (hk:∀g,H g=none→aQ P n all (.cO kc) r (bA s dst (.val (.slice (some ⟨g,0,none⟩) 1 1))) (ins H g (whole [v] e)) K) (hg:cj all s gd=some true:=by rfl) (nb:jy s dst=true:=by rfl):
  aQ P n all (.cO kc) (⟨dst,.buildSlice t 1 #[(0,x)],ty,pos,after,gd⟩::r) s H K:=
 .oL (fun g=> .slice (some ⟨g,0,none⟩) 1 1) [v] e rfl rfl nb (fun a w ha=>by
  refine⟨jY ha (lA (o:=⟨dst,.buildSlice t 1 #[(0,x)],ty,pos,after,gd⟩) hg),?_⟩
  obtain⟨i,hi,hz,cQ,_,qG,_⟩:=he
  have kW:v.cells.size=1:=by rw[hv];rfl
  have AS:Instr.fill (fun k=>some (k*i.size,i.size)) (madeCells z.cells (1*i.size)) [(0,v)]=some #[v]:=by
   have h1:=Vt (sz:=1) [v] 0 [] (madeCells z.cells 1).toList (fun u hu=>by rw[List.mem_singleton]at hu;rw[hu];exact kW) rfl (by simp[size_madeCells])
   simp only[List.nil_append,Array.toArray_toList,List.length_singleton]at h1
   have e1:cF [v] = [v]:=by simp[cF,hv]
   rw[e1]at h1
   rw[cQ]
   simpa [List.range']using h1
  have:=Vu (P:=P) (w:=w) (t:=t) (e:=e) (len:=1) (i:=i) (z:=z) (parts:= #[(0,v)]) (cells:= #[v]) ht hi hz (by rw[cQ];decide) (by rw[cQ];decide) AS
  simp only[execOp,List.map_toArray,List.map_cons,List.map_nil,bT ha hx,Sem.run_bind,this,Result.andThen_ok,Sem.run_pure]) fun g hg _=>hk g hg
theorem En{t e sz bytes:Nat}{x y:Operand}{z v:Value}{m k c:Nat}{A:Option Addr}{xs news:List Value}(ht:P.underlying t=some (.slice e))(he:fX P e sz z bytes)(hx:ev s x=some v)(hy:ev s y=some (.slice A k c))(ho:cg H v e sz m xs)
  (hr:Rd H A news) (hl:news.length=k*sz) (h1:∀u∈news,u.oneCell'=true) (hb:(m+k)*bytes≤140737488355328) (rO:m+k≤9223372036854775807) (hc:(Mode.cO kc).fN H)
  (hk:∀v' H',App H v e sz (m+k) (xs++news) v' H'→aQ P n all (.cO kc) r (bA s dst (.val v')) H' K) (hg:cj all s gd=some true:=by rfl) (nb:jy s dst=true:=by rfl):aQ P n all (.cO kc) (⟨dst,.call ⟨.builtin .append,#[x,y],#[t,t]⟩,ty,pos,after,gd⟩::r) s H K:=
 .m9 (fun v' H'=>App H v e sz (m+k) (xs++news) v' H') rfl (.inl (by simp[kd,J8])) nb (fun a w ha hd=>by
  refine⟨jY ha (lA (o:=⟨dst,.call ⟨.builtin .append,#[x,y],#[t,t]⟩,ty,pos,after,gd⟩) hg),?_⟩
  obtain⟨v',w',H',h2,h3,h4,h5⟩:=Vr (P:=P) (c:=c) hd ht he ho hr hl h1 hb rO ty
  have hex:(execOp a.eval ⟨dst,.call ⟨.builtin .append,#[x,y],#[t,t]⟩,ty,pos,after,gd⟩).run P w = .ok (.value v') w':=by
   simp[execOp,resolve,invoke,builtin,bT ha hx,bT ha hy,h2]
  unfold lX
  rw[hex]
  exact⟨H',h3,h4,h5⟩) (.inr fun v' H' ha ad u hu=>cN ha.le (hc ad u hu)) fun v' H' ha _=>hk v' H' ha
theorem agF{t:TypeId}{x y:Operand}{g o sz:Nat}{ent:Ent}{v:Value}{vs:List Value}{ii:TypeInfo}(hx:ev s x=some (.pointer (some ⟨g,o,none⟩)))(hg:H g=some ent)(cE:ent.own=true)(lC:o+sz≤ent.xs.length)
  (wm:P.info? t=some ii) (cQ:ii.size=sz) (hy:ev s y=some v) (hv:v.cells=vs.toArray) (ig:vs.length=sz) (h1:vs.all yH=true) (iA:cj all s gd=some true):
  EV P n all ⟨none,.store t x y,ty,pos,after,gd⟩ s H (fun _ H'=>H'=ins H g {ent with xs:=aM ent.xs o vs}):=fun a w ha hd=>by
 refine⟨jY ha (lA (o:=⟨none,.store t x y,ty,pos,after,gd⟩) iA),?_⟩
 obtain⟨ob,h2,cur,fz,rfl,h3,h4,h5⟩:=hd g ent hg
 have oT:=h5 cE
 subst oT
 have F3:cur=cur.toList.toArray:=by simp
 have hlen:ent.xs.length≤cur.toList.length:=by
  rcases Nat.eq_zero_or_pos ent.xs.length with h | h
  ·omega
  ·have hx:=h4 (ent.xs.length-1) _ (List.getElem?_eq_getElem (by omega))
   have:=(Array.getElem?_eq_some_iff.1 hx).1
   simp;omega
 rw[F3]at h2
 obtain⟨w',h6,h7,h8,h9,jP,ji,AT⟩:=Kp (P:=P) vs cur.toList w o 0 h2 (fun u hu=>List.all_eq_true.1 h1 u hu) (by omega)
 have hex:(execOp a.eval ⟨none,.store t x y,ty,pos,after,gd⟩).run P w = .ok .skip w':=by
  simp[execOp,bT ha hx,bT ha hy,Instr.storeAt,Instr.sureAddr,storeVar,sizeOf,typeInfo,wm,cQ,hv,ig,h6]
 unfold lX
 rw[hex]
 refine⟨_,rfl,Di (o:= .cells (aM cur.toList (o+0) vs).toArray ent.elem (0,0)) hd h7 h8 h9 (by omega) (fun q _ hq=>ji q hq) AT ⟨_,(0,0),rfl,?_,?_,fun _=>rfl⟩ (.inl ⟨_,hg,cE,cE,rfl,rfl⟩)⟩
 ·simp[FU,h3]
 ·intro q u hq
  have:=Wk vs ent.xs cur.toList o (fun i w hw=>by have:=h4 i w hw;simpa using this) (by omega) q u hq
  simpa using this
theorem BS{t:TypeId}{x y:Operand}{g o sz:Nat}{ent:Ent}{v:Value}{vs:List Value}{ii:TypeInfo}(hx:ev s x=some (.pointer (some ⟨g,o,none⟩)))(hg:H g=some ent)(cE:ent.own=true)(lC:o+sz≤ent.xs.length)
  (wm:P.info? t=some ii) (cQ:ii.size=sz) (hy:ev s y=some v) (hv:v.cells=vs.toArray) (ig:vs.length=sz) (h1:vs.all yH=true)
  (hk:aQ P n all (.cO kc) r s (ins H g {ent with xs:=aM ent.xs o vs}) K) (iA:cj all s gd=some true:=by rfl):aQ P n all (.cO kc) (⟨none,.store t x y,ty,pos,after,gd⟩::r) s H K:=
 .m9 _ rfl (.inr rfl) rfl (agF hx hg cE lC wm cQ hy hv ig h1 iA) (.inl rfl) fun _ H' hH _=>by rw[hH];exact hk
theorem agG{f:FuncId}{xs:List Operand}{cap:List Value}(hx:qF s xs=some cap)(hk:aQ P n all md r (bA s dst (.val (.func (.func f) #[] cap.toArray))) H K)(hg:cj all s gd=some true:=by rfl)(nb:md.nb s dst=true:=by rfl):
  aQ P n all md (⟨dst,.makeFunc (.func f) #[] xs.toArray,ty,pos,after,gd⟩::r) s H K:=
 jh _ rfl hg nb (fun a w ha _=>by simp[execOp,OF ha xs cap hx,Instr.makeFunc]) hk
end
end Go.aw
namespace Go.aw
open Go.Proofs Num Lp
def kj(L:TL)(a:Nat→Rat)(sg:Rat):Nat→Nat→Rat
 | 0=>fun _=>0
 | k+1=>if 0≤L.mZ k then bY (bY (kj L a sg k) (L.pF k) (a k*sg)) (L.mZ k).toNat (-(a k*sg))else bY (kj L a sg k) (L.pF k) (a k*sg)
def sB(f:Nat→Rat)(rel slack:Int)(sg:Rat):Nat→Rat:=if rel=1 then bY f slack.toNat sg else if rel=3 then bY f slack.toNat (-sg)else f
def LR(L:TL)(n:Nat)(a:Nat→Rat)(b:Rat)(rel slack:Int)(unit:Nat)(sg:Rat):Nat→Rat:=
 bY (bY (sB (kj L a sg n) rel slack sg) unit 1) L.w (b*sg)
def fA(N:Nat)(H:Heap)(vs:List Value)(r:List Rat×Int×Rat):Prop:=
 ∃c f u w,vs = [c,.int .i64 r.2.1,.bool f,u,w]∧aR (bR N) 3 H c r.1∧ct H (.agg #[.bool f,u,w]) r.2.2 N
theorem fJ(N:Nat):Up (fA N):=fun H H' vs r hl ⟨c,f,u,w,h1,h2,h3⟩=>⟨c,f,u,w,h1,h2.le (dz N) hl,h3.le hl⟩
theorem fA.cells{N:Nat}{H:Heap}{vs:List Value}{r:List Rat×Int×Rat}(h:fA N H vs r):∃A c k f A1 m1 c1 A2 m2 c2,vs = [.slice A k c,.int .i64 r.2.1,.bool f,.slice A1 m1 c1,.slice A2 m2 c2]∧k=r.1.length:=by
 obtain⟨c,f,u,w,h1,⟨A,cc,xs,rfl,_⟩,h3⟩:=h
 obtain⟨f',u',w',l1,l2,e,⟨A1,c1,rfl,_,_⟩,⟨A2,c2,rfl,_,_⟩,_⟩:=h3
 have:=zf (vs:=[.bool f,u,w]) e
 simp only[List.cons.injEq,Value.bool.injEq,and_true]at this
 obtain⟨_,rfl,rfl⟩:=this
 exact⟨A,cc,_,f,A1,_,c1,A2,_,c2,h1,rfl⟩
theorem Eo{H:Heap}{gv g w:Nat}{ts:List Value}(hv:cell H ⟨gv,0,none⟩=some (.pointer (some ⟨g,0,none⟩)))(hg:H g=some ⟨.int .i64 (w:Int)::ts,9,97,true⟩)(a7:gv≠g)(hw:(w:Int)≤1000000):
 Fn Tryz.prog 122 #[.pointer (some ⟨gv,0,none⟩)] H (fun v H'=>v = .int .i64 (w:Int)∧H'=ins H g ⟨.int .i64 ((w+1:Nat):Int)::ts,9,97,true⟩):=by
 have mO:cell H ((⟨g,0,none⟩:Addr))=some (.int .i64 (w:Int)):=by simp[cell,hg]
 have Dk:∀e,cell (ins H g e) ⟨gv,0,none⟩=some (.pointer (some ⟨g,0,none⟩)):=fun e=>by
  simp only[cell,bg _ _ a7]at hv⊢;exact hv
 refine aZ (args:=[_]) Tryz.func122 rfl rfl Tryz.ntmps122 rfl rfl fun w0=> ?_;refine aj [0] rfl ?_;refine ag (ab 1 rfl (ae [0] ?_));refine ag (aT ah rfl rfl rfl (hv) (ab 1 rfl (aV ah rfl rfl rfl (aT ah rfl rfl rfl (mO) (aH rfl rfl ⟨by omega,by omega⟩ (ab 1 rfl (aV ah rfl rfl rfl ?_)))))));obtain⟨ti,ak,al⟩:=p3;refine ma (g:=g) (o:=0) (.inl rfl) rfl hg rfl (by show 0+1≤(Value.int .i64 (w:Int)::ts).length;simp) ak al rfl rfl rfl rfl ?_;rw[show ({(⟨.int .i64 (w:Int)::ts,9,97,true⟩:Ent)with xs:=aM (.int .i64 (w:Int)::ts) 0 [.int .i64 ((w:Int)+1)]}:Ent)=⟨.int .i64 ((w+1:Nat):Int)::ts,9,97,true⟩from rfl];refine ae [0] ?_;refine ag (aT ah rfl rfl rfl (Dk _) (ab 1 rfl (aV ah rfl rfl rfl (aT ah rfl rfl rfl (show cell (ins H g ⟨.int .i64 ((w+1:Nat):Int)::ts,9,97,true⟩) ⟨g,0,none⟩=some (.int .i64 ((w+1:Nat):Int))from by simp[cell,ins]) ?_))));refine cY rfl rfl ⟨by omega,by omega⟩ (ab 1 rfl (ae [1] ?_));refine aE ⟨.inr rfl,_,.tmp rfl (.nil),?_⟩;refine⟨?_,rfl⟩
 show Value.int .i64 (((w+1:Nat):Int)-1)=_
 rw[show (((w+1:Nat):Int)-1)=(w:Int) by omega]
end Go.aw
namespace Go.aw
open Go.Proofs Num
theorem BT{H:Heap}{u:Value}{l:List Nat}(hu:jB H u l)(bL:Lt l)(hm:(l.length:Int)≤17592186044416):
 Fn Tryz.prog 151 #[u] H (nv H (val l)):=by
 obtain⟨A,c,rfl,hc,hr⟩:=hu;refine aZ (args:=[_]) Tryz.func151 rfl rfl Tryz.ntmps151 rfl rfl fun w0=> ?_;refine aj [0] rfl ?_;refine ag (ab 1 rfl (ae [0] ?_));refine ag (ab 3 rfl (ae [0,3] ?_));refine aq (aG (gK (fun(k:Nat)=>k) (fun(k:Nat)=>put (put (emp) 0 (.val (.slice A l.length c))) 3 (.val (.int .i64 (k:Int)))) (fun(k:Nat) H'=>H'=H∧k≤l.length∧val (l.take k)=val l) l.length (⟨rfl,Nat.le_refl _,by simp⟩) au ?_));rintro k H1 ⟨rfl,hk,hv⟩;refine aq ?_
 rcases Nat.eq_zero_or_pos k with KI | KI
 ·
  skip
  refine ag (ab 1 rfl (aJ false rfl rfl (iW (by omega)) (ab 8 rfl (ae [0,3,15] ?_))));refine dR rfl (aW (aj [0,3] rfl ?_));refine ag (ab 2 rfl (tt ah rfl rfl (.inl ⟨rfl,rfl⟩) (.inr ⟨_,_,rfl,rfl⟩) (by omega) (by omega) ?_));rw[AY];refine dK Tryz.underlying29 eG rfl rfl (yO _) (hr.take k) (by simp[AW];omega) (fun u hu=>oX _ u (List.mem_of_mem_take hu)) (by simp;omega) (by simp;omega) ?_;intro v1 H2 ha;rw[←Gi,Nat.sub_zero]at ha;refine ab 1 rfl (ae [2] ?_);refine aE ⟨.inr rfl,_,.tmp rfl (.nil),?_⟩;have e:=KF bL hk hv (.inl KI);have h1:=(App.p8 (a:=[]) (b:=l.take k) ha rfl (by simp;omega)).lim;rw[List.nil_append,←e]at h1;exact⟨ha.le,h1⟩
 ·
  obtain⟨x,hx⟩:∃x,l[k-1]? = some x:=⟨_,List.getElem?_eq_getElem (by omega)⟩;refine ag (ab 1 rfl (aJ true rfl rfl (mI (by omega)) (ab 3 rfl (cY rfl rfl ⟨by omega,by omega⟩ (aS ah rfl rfl rfl rfl rfl (hr) (du (by rw[show ((k:Int)-1).toNat=k-1 by omega];exact hx)) (by omega) (by omega) fun _=> ?_)))));refine ab 2 rfl (ae [0,3,15] ?_);refine aD rfl (fun hb=> ?_) (fun hb=> ?_)
  ·
   have hb:x=0:=by simpa using hb
   refine aA (aj [0,3] rfl ?_);refine aG (aC rfl (ab 1 rfl (cY rfl rfl ⟨by omega,by omega⟩ (ab 1 rfl (az ?_)))));exact⟨k-1,by omega,au,rfl,by omega,by have:=kY hx;rw[show k-1+1=k by omega,hb,Nat.mul_zero,Nat.add_zero]at this;rw[←this];exact hv⟩
  have hb:x≠0:=by simpa using hb
  refine aW (aj [0,3] rfl ?_);refine ag (ab 2 rfl (tt ah rfl rfl (.inl ⟨rfl,rfl⟩) (.inr ⟨_,_,rfl,rfl⟩) (by omega) (by omega) ?_));rw[AY];refine dK Tryz.underlying29 eG rfl rfl (yO _) (hr.take k) (by simp[AW];omega) (fun u hu=>oX _ u (List.mem_of_mem_take hu)) (by simp;omega) (by simp;omega) ?_;intro v1 H2 ha;rw[←Gi,Nat.sub_zero]at ha;refine ab 1 rfl (ae [2] ?_);refine aE ⟨.inr rfl,_,.tmp rfl (.nil),?_⟩;have e:=KF bL hk hv (.inr ⟨x,hx,hb⟩);have h1:=(App.p8 (a:=[]) (b:=l.take k) ha rfl (by simp;omega)).lim;rw[List.nil_append,←e]at h1;exact⟨ha.le,h1⟩
theorem XO{H:Heap}{u:Value}{l:List Nat}(hu:jB H u l)(Ba:∀x,x∈l→x<4294967296)(hm:(l.length:Int)≤8796093022208):
 Fn Tryz.prog 148 #[u] H (nv H (val l)):=by
 obtain⟨A,c,rfl,hc,hr⟩:=hu;refine aZ (args:=[_]) Tryz.func148 rfl rfl Tryz.ntmps148 rfl rfl fun w0=> ?_;refine aj [0] rfl ?_;refine ag (ab 1 rfl (ae [0] ?_));refine ag (ab 1 rfl (ae [0,3] ?_));refine ag (ab 1 rfl (ae [0,3,4] ?_));refine aq (ag (ab 1 rfl (ae [0,3,4,5] ?_)));refine aG (oU (fun(k:Nat)(v:Value)(o:List Nat)(cr:Nat)=>l.length-k) (fun(k:Nat)(v:Value)(o:List Nat)(cr:Nat)=>put (put (put (put (emp) 0 (.val (.slice A l.length c))) 3 (.val (v))) 4 (.val (.int .u64 (cr:Int)))) 5 (.val (.int .i64 (k:Int)))) (fun(k:Nat)(v:Value)(o:List Nat)(cr:Nat) H'=>Heap.le H H'∧kZ H' v o∧k≤l.length∧o.length=k∧Lt o∧cr≤4∧val o+B^k*cr=val (l.take k)) 0 _ [] 0 (⟨.refl _,yO _,by omega,rfl,Lt.nil,by omega,by simp[val]⟩) au ?_);rintro k v o cr H1 ⟨hle,cE,hk,cT,eD,iM,hv⟩;obtain⟨Ao,co,rfl⟩:=cg.form cE;refine aq (ag (ab 4 rfl (ae [0,3,4,5,9] ?_)));refine aD rfl (fun hb=> ?_) (fun hb=> ?_)
 ·
  have hb:k<l.length:=by simpa using hb
  obtain⟨p,hp⟩:∃p,l[k]? = some p:=⟨_,List.getElem?_eq_getElem hb⟩;have aeq:=Ba p (List.mem_of_getElem? hp);refine aA (aj [0,3,4,5] rfl ?_);refine aq (aG (ag (ab 3 rfl (aS ah rfl rfl rfl rfl rfl (hr.le hle) (du hp) (by omega) (by omega) fun _=>(dg ah rfl rfl rfl ⟨by omega,by omega⟩ (aH rfl rfl ⟨by omega,by omega⟩ (ab 1 rfl (ae [0,3,4,5] ?_))))))));refine ag (ab 2 rfl (nh rfl rfl (by omega) (by omega) (dg ah rfl rfl rfl ⟨by omega,by omega⟩ (cR Tryz.underlying29 eG rfl rfl rfl rfl rfl rfl rfl ?_))));intro gb bo;refine dK Tryz.underlying29 eG rfl rfl (cE.ins _ bo) (rT (y:=(cr+p)%1000000000) rfl) (rfl) (oX _) (by omega) (by omega) ?_;intro v1 H2 ha;refine ab 1 rfl (ae [0,3,4,5] ?_);refine aC rfl (ab 1 rfl (l0 rfl rfl (by omega) (by omega) ⟨by omega,by omega⟩ (ab 1 rfl (az (aj [0,3,4,5] rfl ?_)))));refine aC rfl (ab 1 rfl (aH rfl rfl ⟨by omega,by omega⟩ (ab 1 rfl (az ?_))));have dS:=Dp (s:=cr+p) (u:=val (l.take (k+1))) cT hv rfl (kY hp);exact⟨k+1,v1,o ++ [(cr+p)%B],(cr+p)/B,by omega,au,(hle.trans (Heap.bC _ bo)).trans ha.le,ha.p8 rfl rfl,by omega,by simp[cT],eD.snoc (Nat.mod_lt _ nt),by rw[cn];omega,dS⟩
 ·
  have hb:l.length≤k:=by simpa using hb
  obtain rfl:k=l.length:=by omega
  rw[List.take_length]at hv;refine aW (aj [3,4] rfl ?_);refine AU (fun(v:Value)(o:List Nat)=>put (emp) 3 (.val (v))) (fun(v:Value)(o:List Nat) H'=>Heap.le H H'∧kZ H' v o∧o.length≤l.length+1∧Lt o∧val o=val l) ?_ ?_
  ·
   refine ag (ab 2 rfl (ae [3,4,28] ?_));refine aD rfl (fun hb=> ?_) (fun hb=> ?_)
   ·
    have hb:0<cr:=by simpa using hb
    refine aC rfl (ab 2 rfl (dg ah rfl rfl rfl ⟨by omega,by omega⟩ (cR Tryz.underlying29 eG rfl rfl rfl rfl rfl rfl rfl ?_)));intro gb bo;refine dK Tryz.underlying29 eG rfl rfl (cE.ins _ bo) (rT (y:=cr) rfl) (rfl) (oX _) (by omega) (by omega) ?_;intro v1 H2 ha;refine ab 1 rfl (az ?_);exact⟨v1,o ++ [cr],(by repeat (first | exact iV _ | refine dB rfl ?_ | refine dB (jk (by omega)) ?_)),(hle.trans (Heap.bC _ bo)).trans ha.le,ha.p8 rfl rfl,by simp;omega,eD.snoc (by rw[cn];omega),by rw[rQ,cT];exact hv⟩
   have hb:cr=0:=by simpa using hb
   refine aA ?_;exact⟨_,o,(by repeat (first | exact iV _ | refine dB rfl ?_ | refine dB (jk (by omega)) ?_)),hle,cE,by omega,eD,by rw[hb,Nat.mul_zero]at hv;omega⟩
  rintro v o H3 ⟨hle,cE,cT,eD,hv⟩;refine ag (ab 1 rfl (aF rfl rfl (BT cE.lim eD (by omega)) ?_));intro v1 H4 hp;refine ab 1 rfl (ae [2] ?_);refine aE ⟨.inr rfl,_,.tmp rfl (.nil),?_⟩;exact⟨hle.trans hp.le,by have:=hp.nat;rwa [hv]at this⟩
theorem HC{H:Heap}{x:Nat}(hx:x<18446744073709551616):
 Fn Tryz.prog 76 #[.int .u64 (x:Int)] H (nv H x):=by
 refine aZ (args:=[_]) Tryz.func76 rfl rfl Tryz.ntmps76 rfl rfl fun w0=> ?_;refine aj [0] rfl ?_;refine ag (ab 1 rfl (ae [0] ?_));refine ag (ab 1 rfl (ae [0,3] ?_));refine aq (aG (fG (fun(y:Nat)(v:Value)(o:List Nat)=>y) (fun(y:Nat)(v:Value)(o:List Nat)=>put (put (emp) 0 (.val (.int .u64 (y:Int)))) 3 (.val (v))) (fun(y:Nat)(v:Value)(o:List Nat) H'=>Heap.le H H'∧kZ H' v o∧y≤x∧o++ao y=ao x) x (.slice none 0 0) [] (⟨.refl _,yO _,Nat.le_refl _,rfl⟩) au ?_));rintro y v o H1 ⟨hle,cE,wv,ho⟩;obtain⟨A,c,rfl⟩:=cg.form cE
 have cT:o.length≤(ao x).length:=by rw[←ho];simp
 have cP:(ao x).length≤3:=jn.2 (by rw[cn];omega);refine aq (ag (ab 2 rfl (ae [0,3,5] ?_)));refine aD rfl (fun hb=> ?_) (fun hb=> ?_)
 ·
  have hb:0<y:=by simpa using hb
  refine aA (aj [0,3] rfl ?_);refine aG (ag (ab 2 rfl (nh rfl rfl (by omega) (by omega) (dg ah rfl rfl rfl ⟨by omega,by omega⟩ (cR Tryz.underlying29 eG rfl rfl rfl rfl rfl rfl rfl ?_)))));intro gb bo;refine dK Tryz.underlying29 eG rfl rfl (cE.ins _ bo) (rT (VI y 1000000000)) (rfl) (oX _) (by omega) (by omega) ?_;intro v1 H2 ha;refine ab 1 rfl (ae [0,3] ?_);refine aC rfl (ab 1 rfl (l0 rfl rfl (by omega) (by omega) ⟨by omega,by omega⟩ (ab 1 rfl (az ?_))))
  have jz:0<y:=by omega
  rw[yL jz]at ho;exact⟨y/B,v1,o ++ [y%B],Nat.div_lt_self jz (by decide),au,(hle.trans (Heap.bC _ bo)).trans ha.le,ha.p8 rfl rfl,Nat.le_trans (Nat.div_le_self _ _) wv,by simpa using ho⟩
 ·
  have hb:y=0:=by simpa using hb
  refine aW (aj [3] rfl ?_);refine ag (ab 2 rfl (ae [2] ?_));refine aE ⟨.inr rfl,_,.tmp rfl (.nil),?_⟩;subst hb;exact⟨hle,Dr (cE.lim) (by rw[show o=ao x by simpa [qI]using ho];exact fQ x) (by rw[show o=ao x by simpa [qI]using ho];exact cS x)⟩
theorem LS{H:Heap}{u v:Value}{x y:Nat}(hx:dh H u x)(hy:dh H v y)(hm:((ao x).length:Int)≤35184372088832):
 Fn Tryz.prog 80 #[u,v] H (vj H (.int .i64 (kJ x y))):=by
 obtain⟨A,c,rfl,hc,hr⟩:=hx
 obtain⟨A',c',rfl,jO,dU⟩:=hy;refine aZ (args:=[_,_]) Tryz.func80 rfl rfl Tryz.ntmps80 rfl rfl fun w0=> ?_;refine aj [0,1] rfl ?_;refine ag (ab 1 rfl (ae [0,1] ?_));refine aq (ag (ab 5 rfl (ae [0,1,10] ?_)));refine aD rfl (fun hb=> ?_) (fun hb=> ?_)
 ·
  have hl:(ao x).length≠(ao y).length:=by simp at hb;omega
  refine aq (ag (ab 5 rfl (ae [15] ?_)));refine aD rfl (fun hb=> ?_) (fun hb=> ?_)
  ·
   simp at hb
   refine ag (ab 1 rfl (ae [4] ?_));refine aE ⟨.inr rfl,_,.tmp rfl (.nil),?_⟩;exact⟨rfl,by rw[KB (KD hb)];rfl⟩
  ·
   simp at hb
   refine aA (aj [] rfl ?_);refine ag (ab 1 rfl (ae [4] ?_));refine aE ⟨.inr rfl,_,.tmp rfl (.nil),?_⟩;exact⟨rfl,by rw[KC (KD (by omega))];rfl⟩
 ·
  have hl:(ao x).length=(ao y).length:=by simp at hb;omega
  refine aA (aj [0,1] rfl ?_);refine aq (ag (ab 2 rfl (cY rfl rfl ⟨by omega,by omega⟩ (ab 1 rfl (ae [0,1,5] ?_)))));refine aG (gK (fun(k:Nat)=>k) (fun(k:Nat)=>put (put (put (emp) 0 (.val (.slice A (ao x).length c))) 1 (.val (.slice A' (ao y).length c'))) 5 (.val (.int .i64 ((k:Int)-1)))) (fun(k:Nat) H'=>H'=H∧k≤(ao x).length∧(ao x).drop k=(ao y).drop k) (ao x).length (⟨rfl,Nat.le_refl _,by rw[List.drop_of_length_le (Nat.le_refl _),List.drop_of_length_le (by omega)]⟩) au ?_);rintro k H1 ⟨rfl,hk,hd⟩;refine aq (ag (ab 2 rfl (ae [0,1,5,20] ?_)));refine aD rfl (fun hb=> ?_) (fun hb=> ?_)
  ·
   simp at hb
   obtain⟨p,hp⟩:∃p,(ao x)[k-1]? = some p:=⟨_,List.getElem?_eq_getElem (by omega)⟩;obtain⟨q,hq⟩:∃q,(ao y)[k-1]? = some q:=⟨_,List.getElem?_eq_getElem (by omega)⟩
   have hj:((k:Int)-1).toNat=k-1:=by omega
   have fh:(ao x).drop (k-1+1)=(ao y).drop (k-1+1):=by rw[show k-1+1=k by omega];exact hd
   refine aA (aj [0,1,5] rfl ?_);refine aq (aG (aq (bP .bJ [0,1,2,3,4,5,6,7,8] follows (by kernel_rfl) ?_)));refine ab 2 rfl (aS ah rfl rfl rfl rfl rfl (hr) (by rw[hj];exact du hp) (by omega) (by omega) fun _=> ?_);refine ab 2 rfl (aS ah rfl rfl rfl rfl rfl (dU) (by rw[hj];exact du hq) (by omega) (by omega) fun _=> ?_);refine ab 1 rfl (ae [0,1,5,31] ?_);refine aD rfl (fun hb=> ?_) (fun hb=> ?_)
   ·
    have nu:p<q:=by simpa using hb
    refine ag (ab 1 rfl (ae [4] ?_));refine aE ⟨.inr rfl,_,.tmp rfl (.nil),?_⟩;exact⟨rfl,by rw[KB (by have:=KA (fQ x).lt hp hq fh nu;rwa [cS,cS]at this)];rfl⟩
   have nu:¬p<q:=by simpa using hb
   refine aA (aj [0,1,5] rfl ?_);refine bP .bJ [0,1,2,3,4,5,6,7,8] follows (by kernel_rfl) ?_;refine ab 2 rfl (aS ah rfl rfl rfl rfl rfl (hr) (by rw[hj];exact du hp) (by omega) (by omega) fun _=> ?_);refine ab 2 rfl (aS ah rfl rfl rfl rfl rfl (dU) (by rw[hj];exact du hq) (by omega) (by omega) fun _=> ?_);refine ab 1 rfl (ae [0,1,5,40] ?_);refine aD rfl (fun hb=> ?_) (fun hb=> ?_)
   ·
    have Gj:q<p:=by simpa using hb
    refine ag (ab 1 rfl (ae [4] ?_));refine aE ⟨.inr rfl,_,.tmp rfl (.nil),?_⟩;exact⟨rfl,by rw[KC (by have:=KA (fQ y).lt hq hp fh.symm Gj;rwa [cS,cS]at this)];rfl⟩
   have Gj:¬q<p:=by simpa using hb
   refine aA (aj [0,1,5] rfl ?_);refine aC rfl (ab 1 rfl (cY rfl rfl ⟨by omega,by omega⟩ (ab 1 rfl (az ?_))))
   obtain rfl:p=q:=by omega
   exact⟨k-1,by omega,au,rfl,by omega,VF (by omega) hp hq hd⟩
  simp at hb
  refine aW (aj [] rfl ?_);refine ag (ab 1 rfl (ae [4] ?_));refine aE ⟨.inr rfl,_,.tmp rfl (.nil),?_⟩
  obtain rfl:k=0:=by omega
  have:x=y:=by rw[←cS x,←cS y];simpa using congrArg val hd
  exact⟨rfl,by rw[this,VE];rfl⟩
end Go.aw
namespace Go.aw
open Go.Proofs Num
theorem getD_lt{l:List Nat}(h:Lt l)(k:Nat):(l[k]?).getD 0<1000000000:=by
 cases hq:l[k]? with
 | none=>simp
 | some z=>have:=h.get hq;rw[cn]at this;simpa using this
theorem getD_some{l:List Nat}{k e:Nat}(he:e=(l[k]?).getD 0)(h:k<l.length):l[k]? = some e:=by
 rw[List.getElem?_eq_getElem h]at he⊢;simp at he;rw[he]
theorem getD_none{l:List Nat}{k e:Nat}(he:e=(l[k]?).getD 0)(h:l.length≤k):e=0:=by
 rw[he,List.getElem?_eq_none h];rfl
theorem agH{H:Heap}{u v:Value}{x y:Nat}(hx:dh H u x)(hy:dh H v y)(hm:((ao x).length:Int)≤8796093022208)(bI:((ao y).length:Int)≤8796093022208):
 Fn Tryz.prog 79 #[u,v] H (nv H (x+y)):=by
 obtain⟨A,c,rfl,hc,hr⟩:=hx
 obtain⟨A',c',rfl,jO,dU⟩:=hy
 have jC:=(fQ x).lt
 have eF:=(fQ y).lt
 obtain⟨M,hM⟩:∃M,M=max (ao x).length (ao y).length:=⟨_,rfl⟩;refine aZ (args:=[_,_]) Tryz.func79 rfl rfl Tryz.ntmps79 rfl rfl fun w0=> ?_;refine aj [0,1] rfl ?_;refine ag (ab 1 rfl (ae [0,1] ?_));refine ag (ab 1 rfl (ae [0,1,5] ?_));refine ag (ab 1 rfl (ae [0,1,5,6] ?_));refine aq (ag (ab 1 rfl (ae [0,1,5,6,7] ?_)));refine aG (oU (fun(k:Nat)(v:Value)(o:List Nat)(cr:Nat)=>M+1-k) (fun(k:Nat)(v:Value)(o:List Nat)(cr:Nat)=>put (put (put (put (put (emp) 0 (.val (.slice A (ao x).length c))) 1 (.val (.slice A' (ao y).length c'))) 5 (.val (v))) 6 (.val (.int .u32 (cr:Int)))) 7 (.val (.int .i64 (k:Int)))) (fun(k:Nat)(v:Value)(o:List Nat)(cr:Nat) H'=>Heap.le H H'∧kZ H' v o∧k≤M+1∧o.length=k∧Lt o∧cr≤1∧val o+B^k*cr=val ((ao x).take k)+val ((ao y).take k)∧(k=M+1→cr=0∧B^M≤val o)) 0 _ [] 0 (⟨.refl _,yO _,by omega,rfl,Lt.nil,by omega,by simp[val],by omega⟩) au ?_);rintro k v o cr H1 ⟨hle,cE,hk,cT,eD,iM,hv,hM1⟩;obtain⟨Ao,co,rfl⟩:=cg.form cE;refine Dl (put (put (put (put (put (emp) 0 (.val (.slice A (ao x).length c))) 1 (.val (.slice A' (ao y).length c'))) 5 (.val (.slice Ao o.length co))) 6 (.val (.int .u32 (cr:Int)))) 7 (.val (.int .i64 (k:Int)))) (fun H'=>H'=H1∧k≤M∧(k<(ao x).length∨k<(ao y).length∨0<cr)) ?_ ?_
 ·
  by_cases oo:k<(ao x).length
  ·
   skip
   refine ag (ab 3 rfl (aJ true rfl rfl (jS (by omega)) (ab 10 rfl (ae [0,1,5,6,7,22] ?_))));refine dJ rfl (aA ?_);exact⟨au,rfl,by omega,.inl oo⟩
  ·
   by_cases qX:k<(ao y).length
   skip
   ·
    skip
    refine ag (ab 3 rfl (aJ false rfl rfl (iC (by omega)) (ab 4 rfl (aJ true rfl rfl (jS (by omega)) (ab 5 rfl (ae [0,1,5,6,7,22] ?_))))));refine dJ rfl (aA ?_);exact⟨au,rfl,by omega,.inr (.inl qX)⟩
   skip
   refine ag (ab 3 rfl (aJ false rfl rfl (iC (by omega)) (ab 4 rfl (aJ false rfl rfl (iC (by omega)) (ab 5 rfl (ae [0,1,5,6,7,22] ?_))))));refine aD rfl (fun hb=> ?_) (fun hb=> ?_)
   ·
    have hb:0<cr:=by simpa using hb
    refine aA ?_;exact⟨au,rfl,by omega,.inr (.inr hb)⟩
   have hb:cr=0:=by simpa using hb
   refine aW (aj [5] rfl ?_);refine ag (ab 2 rfl (ae [4] ?_));refine aE ⟨.inr rfl,_,.tmp rfl (.nil),?_⟩;subst hb;rw[Nat.mul_zero,Nat.add_zero,List.take_of_length_le (by omega),List.take_of_length_le (by omega),cS,cS]at hv;refine⟨hle,Dr cE.lim (last_pos eD cT ?_) hv⟩
   rcases Nat.eq_zero_or_pos k with e | e
   ·exact .inl e
   right
   by_cases h1:k=M+1
   ·
    have:=(hM1 h1).2;rw[show k-1=M by omega];exact this
   have h2:k=M:=by omega
   rw[hv]
   rcases Nat.le_total (ao x).length (ao y).length with h3 | h3
   ·
    have h4:k=(ao y).length:=by omega
    have h5:=O3 (y:=y) (Nat.pos_of_ne_zero fun e0=>by rw[j6.2 e0]at h4;omega);rw[h4];omega
   have h4:k=(ao x).length:=by omega
   have h5:=O3 (y:=x) (Nat.pos_of_ne_zero fun e0=>by rw[j6.2 e0]at h4;omega);rw[h4];omega
 ·
  rintro H2 ⟨rfl,hkM,amB⟩;obtain⟨da,HD⟩:∃e,e=((ao x)[k]?).getD 0:=⟨_,rfl⟩;obtain⟨db,td⟩:∃e,e=((ao y)[k]?).getD 0:=⟨_,rfl⟩
  have amC:da<1000000000:=by rw[HD];exact getD_lt jC k
  have amD:db<1000000000:=by rw[td];exact getD_lt eF k
  refine aq (aG (ag (ab 2 rfl (ae [0,1,5,7,8] ?_))));refine kI (fun(sv:Int)=>put (put (put (put (put (emp) 0 (.val (.slice A (ao x).length c))) 1 (.val (.slice A' (ao y).length c'))) 5 (.val (.slice Ao o.length co))) 7 (.val (.int .i64 (k:Int)))) 8 (.val (.int .u32 sv))) (fun(sv:Int) H'=>H'=H2∧sv=(cr:Int)+da) ?_ ?_
  ·
   refine ag (ab 4 rfl (ae [0,1,5,7,8,29] ?_));refine aD rfl (fun hb=> ?_) (fun hb=> ?_)
   ·
    have hb:k<(ao x).length:=by simpa using hb
    have hz:=getD_some HD hb;refine aC rfl (ab 3 rfl (aS ah rfl rfl rfl rfl rfl (hr.le hle) (du hz) (by omega) (by omega) fun _=>(aH rfl rfl ⟨by omega,by omega⟩ (ab 1 rfl (az ?_)))));exact⟨(cr:Int)+da,au,rfl,rfl⟩
   have hb:(ao x).length≤k:=by simpa using hb
   have hz:=getD_none HD hb;refine aA ?_;exact⟨(cr:Int),au,rfl,by omega⟩
  rintro sv H3 ⟨rfl,wz⟩;refine kI (fun(LU:Int)=>put (put (put (put (put (emp) 0 (.val (.slice A (ao x).length c))) 1 (.val (.slice A' (ao y).length c'))) 5 (.val (.slice Ao o.length co))) 7 (.val (.int .i64 (k:Int)))) 8 (.val (.int .u32 LU))) (fun(LU:Int) H'=>H'=H3∧LU=(cr:Int)+da+db) ?_ ?_
  ·
   refine ag (ab 4 rfl (ae [0,1,5,7,8,39] ?_));refine aD rfl (fun hb=> ?_) (fun hb=> ?_)
   ·
    have hb:k<(ao y).length:=by simpa using hb
    have hz:=getD_some td hb;refine aC rfl (ab 3 rfl (aS ah rfl rfl rfl rfl rfl (dU.le hle) (du hz) (by omega) (by omega) fun _=>(aH rfl rfl ⟨by omega,by omega⟩ (ab 1 rfl (az ?_)))));exact⟨sv+db,au,rfl,by omega⟩
   have hb:(ao y).length≤k:=by simpa using hb
   have hz:=getD_none td hb;refine aA ?_;exact⟨sv,au,rfl,by omega⟩
  rintro LU H4 ⟨rfl,amE⟩;refine ag (ab 1 rfl (l0 rfl rfl (by omega) (by omega) ⟨by omega,by omega⟩ (ab 1 rfl (ae [0,1,5,6,7,8] ?_))));refine aC rfl (ab 2 rfl (nh rfl rfl (by omega) (by omega) (cR Tryz.underlying29 eG rfl rfl rfl rfl rfl rfl rfl ?_)));intro gb bo;refine dK Tryz.underlying29 eG rfl rfl (cE.ins _ bo) (rT (y:=(cr+da+db)%1000000000) (by omega)) (rfl) (oX _) (by omega) (by omega) ?_;intro v1 H5 ha;refine ab 1 rfl (az (aj [0,1,5,6,7] rfl ?_));refine aC rfl (ab 1 rfl (aH rfl rfl ⟨by omega,by omega⟩ (ab 1 rfl (az ?_))));have dS:=Dp (s:=cr+da+db) (a:=cr) (b:=da+db) (u:=val ((ao x).take (k+1))+val ((ao y).take (k+1))) cT hv (by omega) (by rw[yM,yM,←HD,←td,Nat.mul_add];omega);refine⟨k+1,v1,o ++ [(cr+da+db)%B],(cr+da+db)/1000000000,by omega,au,(hle.trans (Heap.bC _ bo)).trans ha.le,ha.p8 rfl rfl,by omega,by simp[cT],eD.snoc (Nat.mod_lt _ nt),by omega,dS,fun e=> ?_⟩;have h1:=getD_none HD (by omega);have h2:=getD_none td (by omega)
  obtain rfl:k=M:=by omega
  have h3:cr=1:=by omega
  subst h1 h2 h3;rw[rQ,cT,show (1+0+0)%B=1 from rfl,show (1+0+0)/1000000000=0 from rfl];exact⟨rfl,by omega⟩
end Go.aw
namespace Go.aw
open Go.Proofs Num
theorem LV{H:Heap}{u v:Value}{x y:Nat}(hx:dh H u x)(hy:dh H v y)(wv:y≤x)(hm:((ao x).length:Int)≤8796093022208):
 Fn Tryz.prog 81 #[u,v] H (nv H (x-y)):=by
 obtain⟨A,c,rfl,hc,hr⟩:=hx
 obtain⟨A',c',rfl,jO,dU⟩:=hy
 have jC:=(fQ x).lt
 have eF:=(fQ y).lt
 have hl:=mH wv;refine aZ (args:=[_,_]) Tryz.func81 rfl rfl Tryz.ntmps81 rfl rfl fun w0=> ?_;refine aj [0,1] rfl ?_;refine ag (ab 1 rfl (ae [0,1] ?_));refine ag (ab 2 rfl (gJ Tryz.underlying29 eG rfl rfl rfl (by omega) (by omega) (by omega) (by omega) ?_));intro g hg;rw[show (((ao x).length:Int)).toNat=(ao x).length from by omega,yQ];have qJ:=fun e=>hr.le (Heap.bC (g:=g) e hg);have Gk:=fun e=>dU.le (Heap.bC (g:=g) e hg);refine ab 1 rfl (ae [0,1,5] ?_);refine ag (ab 1 rfl (ae [0,1,5,6] ?_));refine aq (ag (ab 1 rfl (ae [0,1,5,6,7] ?_)));refine aG (fG (fun(k:Nat)(o:List Nat)(br:Nat)=>(ao x).length-k) (fun(k:Nat)(o:List Nat)(br:Nat)=>put (put (put (put (put (emp) 0 (.val (.slice A (ao x).length c))) 1 (.val (.slice A' (ao y).length c'))) 5 (.val (.slice (some ⟨g,0,none⟩) (ao x).length (ao x).length))) 6 (.val (.int .u32 (br:Int)))) 7 (.val (.int .i64 (k:Int)))) (fun(k:Nat)(o:List Nat)(br:Nat) H'=>H'=ins H g (dH o (ao x).length)∧k≤(ao x).length∧o.length=(ao x).length∧Lt o∧br≤1∧val ((ao x).take k)+B^k*br=val (o.take k)+val ((ao y).take k)) 0 _ 0 (⟨rfl,by omega,by simp,Lt.replicate _,by omega,by simp[val]⟩) au ?_)
 rintro k o br H1 ⟨rfl,hk,cT,eD,vc,hv⟩;refine aq (ag (ab 4 rfl (ae [0,1,5,6,7,15] ?_)));refine aD rfl (fun hb=> ?_) (fun hb=> ?_)
 ·
  have hb:k<(ao x).length:=by simpa using hb
  obtain⟨d,hd⟩:∃d,(ao x)[k]? = some d:=⟨_,List.getElem?_eq_getElem hb⟩;have l4:=jC.get hd;rw[cn]at l4;obtain⟨e,he⟩:∃e,e=((ao y)[k]?).getD 0:=⟨_,rfl⟩
  have Ds:e<1000000000:=by rw[he];exact getD_lt eF k
  refine aA (aj [0,1,5,6,7] rfl ?_);refine aq (aG (ag (ab 2 rfl (ae [0,1,5,7,8] ?_))));refine kI (fun(sv:Int)=>put (put (put (put (put (emp) 0 (.val (.slice A (ao x).length c))) 1 (.val (.slice A' (ao y).length c'))) 5 (.val (.slice (some ⟨g,0,none⟩) (ao x).length (ao x).length))) 7 (.val (.int .i64 (k:Int)))) 8 (.val (.int .u32 sv))) (fun(sv:Int) H'=>H'=ins H g (dH o (ao x).length)∧sv=(br:Int)+e) ?_ ?_
  ·
   refine ag (ab 4 rfl (ae [0,1,5,7,8,22] ?_));refine aD rfl (fun hb=> ?_) (fun hb=> ?_)
   ·
    have hb:k<(ao y).length:=by simpa using hb
    have hz:=getD_some he hb;refine aC rfl (ab 3 rfl (aS ah rfl rfl rfl rfl rfl (Gk _) (du hz) (by omega) (by omega) fun _=>(aH rfl rfl ⟨by omega,by omega⟩ (ab 1 rfl (az ?_)))));exact⟨(br:Int)+e,au,rfl,rfl⟩
   have hb:(ao y).length≤k:=by simpa using hb
   have hz:=getD_none he hb;refine aA ?_;exact⟨(br:Int),au,rfl,by omega⟩
  ·
   rintro sv H4 ⟨rfl,wz⟩;refine ag (ab 2 rfl (aS ah rfl rfl rfl rfl rfl (qJ _) (du hd) (by omega) (by omega) fun _=>(ab 2 rfl (ae [0,1,5,7,8,34] ?_))));refine aD rfl (fun hb=> ?_) (fun hb=> ?_)
   ·
    have hb:sv≤d:=by simpa using hb
    refine aC rfl (ab 4 rfl (aS ah rfl rfl rfl rfl rfl (qJ _) (du hd) (by omega) (by omega) fun _=>(ab 1 rfl (cY rfl rfl ⟨by omega,by omega⟩ ?_))));obtain⟨ti,ak,al⟩:=oW;refine cV (.inl rfl) ah rfl rfl rfl (by omega) (by omega) (bF _ _ _) rfl (by rw[oY];omega) ak al (fun _=>rfl) rfl rfl rfl fun _=> ?_;refine ab 1 rfl (az (aj [0,1,5,6,7] rfl ?_));refine aC rfl (ab 1 rfl (aH rfl rfl ⟨by omega,by omega⟩ (ab 1 rfl (az ?_))));have dS:=Gh (o:=o.take k) (s:=d-br-e) (br':=0) (d:=d) (e:=e) (by simp;omega) hv (by omega) (kY hd) (show val ((ao y).take (k+1))=val ((ao y).take k)+B^k*e by rw[yM,←he]);rw[←yR (by omega)]at dS;exact⟨k+1,o.set k (d-br-e),0,by omega,au,by rw[u6 (y:=d-br-e) (by omega)];rfl,by omega,by simp[cT],eD.set (by rw[cn];omega),by omega,dS⟩
   have hb:(d:Int)<sv:=by simpa using hb
   refine aC rfl (ab 4 rfl (aS ah rfl rfl rfl rfl rfl (qJ _) (du hd) (by omega) (by omega) fun _=>(aH rfl rfl ⟨by omega,by omega⟩ (ab 1 rfl (cY rfl rfl ⟨by omega,by omega⟩ ?_)))));obtain⟨ti,ak,al⟩:=oW;refine cV (.inl rfl) ah rfl rfl rfl (by omega) (by omega) (bF _ _ _) rfl (by rw[oY];omega) ak al (fun _=>rfl) rfl rfl rfl fun _=> ?_;refine ab 1 rfl (az (aj [0,1,5,6,7] rfl ?_));refine aC rfl (ab 1 rfl (aH rfl rfl ⟨by omega,by omega⟩ (ab 1 rfl (az ?_))));have dS:=Gh (o:=o.take k) (s:=d+1000000000-br-e) (br':=1) (d:=d) (e:=e) (by simp;omega) hv (by rw[cn];omega) (kY hd) (show val ((ao y).take (k+1))=val ((ao y).take k)+B^k*e by rw[yM,←he]);rw[←yR (by omega)]at dS;exact⟨k+1,o.set k (d+1000000000-br-e),1,by omega,au,by rw[u6 (y:=d+1000000000-br-e) (by omega)];rfl,by omega,by simp[cT],eD.set (by rw[cn];omega),by omega,dS⟩
 ·
  have hb:(ao x).length≤k:=by simpa using hb
  obtain rfl:k=(ao x).length:=by omega
  rw[List.take_length,List.take_of_length_le hl,cS,cS,List.take_of_length_le (by omega)]at hv;have wy:=uY eD;rw[cT]at wy
  have tu:br=0:=by
   rcases Nat.eq_zero_or_pos br with h|h
   ·exact h
   ·
    obtain rfl:br=1:=by omega
    omega
  refine aW (aj [5] rfl ?_);refine ag (ab 1 rfl (aF rfl rfl (BT (AZ _ _ o _ _ cT.symm (Nat.le_refl _)) eD (by omega)) ?_));intro v1 H4 hp;refine ab 1 rfl (ae [4] ?_);refine aE ⟨.inr rfl,_,.tmp rfl (.nil),?_⟩;exact⟨(Heap.bC _ hg).trans hp.le,by have:=hp.nat;rwa [show val o=x-y by rw[tu]at hv;omega]at this⟩
theorem xz{H:Heap}{u v:Value}{x y:Nat}(hx:dh H u x)(hy:dh H v y)(hm:((ao x).length:Int)<8796093022208)(bI:((ao y).length:Int)<8796093022208):
 Fn Tryz.prog 78 #[u,v] H (nv H (x*y)):=by
 obtain⟨A,c,rfl,hc,hr⟩:=hx
 obtain⟨A',c',rfl,jO,dU⟩:=hy
 have jC:=(fQ x).lt
 have eF:=(fQ y).lt;refine aZ (args:=[_,_]) Tryz.func78 rfl rfl Tryz.ntmps78 rfl rfl fun w0=> ?_;refine aj [0,1] rfl ?_;refine ag (ab 1 rfl (ae [0,1] ?_));refine ag (ab 4 rfl (aH rfl rfl ⟨by omega,by omega⟩ (aH rfl rfl ⟨by omega,by omega⟩ (gJ Tryz.underlying29 eG rfl rfl rfl (by omega) (by omega) (by omega) (by omega) ?_))));intro g hg;rw[show (((ao x).length:Int)+((ao y).length:Int)+1).toNat=((ao x).length+(ao y).length+1)from by omega,yQ];have qJ:=fun e=>hr.le (Heap.bC (g:=g) e hg);have Gk:=fun e=>dU.le (Heap.bC (g:=g) e hg);refine ab 1 rfl (ae [0,1,5] ?_);refine aq (ag (ab 1 rfl (ae [0,1,5,6] ?_)));refine aG (ij (fun(i:Nat)(o:List Nat)=>(ao x).length-i) (fun(i:Nat)(o:List Nat)=>put (put (put (put (emp) 0 (.val (.slice A (ao x).length c))) 1 (.val (.slice A' (ao y).length c'))) 5 (.val (.slice (some ⟨g,0,none⟩) ((ao x).length+(ao y).length+1) ((ao x).length+(ao y).length+1)))) 6 (.val (.int .i64 (i:Int)))) (fun(i:Nat)(o:List Nat) H'=>H'=ins H g (dH o ((ao x).length+(ao y).length+1))∧i≤(ao x).length∧o.length=((ao x).length+(ao y).length+1)∧Lt o∧rU o (i+(ao y).length)∧val o=val ((ao x).take i)*y) 0 _ (⟨rfl,by omega,by simp,Lt.replicate _,VQ _ _,by simp[val,VH]⟩) au ?_)
 rintro i o H1 ⟨rfl,hi,cT,eD,hz,hv⟩;refine aq (ag (ab 4 rfl (ae [0,1,5,6,19] ?_)));refine aD rfl (fun hb=> ?_) (fun hb=> ?_)
 ·
  have hb:i<(ao x).length:=by simpa using hb
  obtain⟨d,hd⟩:∃d,(ao x)[i]? = some d:=⟨_,List.getElem?_eq_getElem hb⟩;have l4:=jC.get hd;rw[cn]at l4;refine aA (aj [0,1,5,6] rfl ?_);refine aq (aG (ag (ab 1 rfl (ae [0,1,5,6,7] ?_))));refine ag (ab 1 rfl (ae [0,1,5,6,7,8] ?_));refine aG (fG (fun(j:Nat)(o2:List Nat)(cr:Nat)=>(ao y).length+1-j) (fun(j:Nat)(o2:List Nat)(cr:Nat)=>put (put (put (put (put (put (emp) 0 (.val (.slice A (ao x).length c))) 1 (.val (.slice A' (ao y).length c'))) 5 (.val (.slice (some ⟨g,0,none⟩) ((ao x).length+(ao y).length+1) ((ao x).length+(ao y).length+1)))) 6 (.val (.int .i64 (i:Int)))) 7 (.val (.int .u64 (cr:Int)))) 8 (.val (.int .i64 (j:Int)))) (fun(j:Nat)(o2:List Nat)(cr:Nat) H'=>H'=ins H g (dH o2 ((ao x).length+(ao y).length+1))∧j≤(ao y).length+1∧o2.length=((ao x).length+(ao y).length+1)∧Lt o2∧cr<1000000000∧rU o2 (i+(ao y).length+1)∧(j≤(ao y).length→rU o2 (i+(ao y).length))∧(j=(ao y).length+1→cr=0)∧val o2+B^(i+j)*cr=val ((ao x).take i)*y+B^i*d*val ((ao y).take j)) 0 o 0 (⟨rfl,by omega,cT,eD,by omega,fun t z ht=>hz t z (by omega),fun _=>hz,by omega,by simp[val,hv]⟩) au ?_);rintro j o2 cr H1 ⟨rfl,hj,Gl,Bc,iM,oZ,so,vf,dI⟩
  refine Dl (put (put (put (put (put (put (emp) 0 (.val (.slice A (ao x).length c))) 1 (.val (.slice A' (ao y).length c'))) 5 (.val (.slice (some ⟨g,0,none⟩) ((ao x).length+(ao y).length+1) ((ao x).length+(ao y).length+1)))) 6 (.val (.int .i64 (i:Int)))) 7 (.val (.int .u64 (cr:Int)))) 8 (.val (.int .i64 (j:Int)))) (fun H'=>H'=ins H g (dH o2 ((ao x).length+(ao y).length+1))∧j≤(ao y).length) ?_ ?_
  ·
   by_cases hjb:j<(ao y).length
   ·
    skip
    refine ag (ab 3 rfl (aJ true rfl rfl (jS (by omega)) (ab 4 rfl (ae [0,1,5,6,7,8,29] ?_))));refine dJ rfl (aA ?_);exact⟨au,rfl,by omega⟩
   skip
   refine ag (ab 3 rfl (aJ false rfl rfl (iC (by omega)) (ab 4 rfl (ae [0,1,5,6,7,8,29] ?_))));refine aD rfl (fun hb=> ?_) (fun hb=> ?_)
   ·
    have hb:0<cr:=by simpa using hb
    refine aA ?_;exact⟨au,rfl,by omega⟩
   have hb:cr=0:=by simpa using hb
   subst hb;rw[List.take_of_length_le (l:=ao y) (i:=j) (by omega),cS,Nat.mul_zero,Nat.add_zero]at dI;refine aW (aj [0,1,5,6] rfl ?_);refine aC rfl (ab 1 rfl (aH rfl rfl ⟨by omega,by omega⟩ (ab 1 rfl (az ?_))));refine⟨i+1,o2,by omega,au,rfl,by omega,Gl,Bc,by rw[Nat.add_right_comm];exact oZ,?_⟩;rw[kY hd,Nat.add_mul]
   omega
  ·
   rintro H4 ⟨rfl,Xu⟩;obtain⟨p,hp⟩:∃p,p=((ao y)[j]?).getD 0:=⟨_,rfl⟩
   have yP:p<1000000000:=by rw[hp];exact getD_lt eF j
   obtain⟨e,he⟩:∃e,o2[i+j]? = some e:=⟨_,List.getElem?_eq_getElem (by omega)⟩;have Ds:=Bc.get he;rw[cn]at Ds
   have Gm:((i:Int)+(j:Int)).toNat=i+j:=by omega
   have VN:d*p≤999999999*999999999:=Nat.mul_le_mul (by omega) (by omega)
   have VO:(d:Int)*(p:Int)=((d*p:Nat):Int):=by simp
   refine aq (aG (ag (ab 4 rfl (aH rfl rfl ⟨by omega,by omega⟩ (aS ah rfl rfl rfl rfl rfl (KH _ _ _ _) (by rw[Gm];exact du he) (by omega) (by omega) fun _=> ?_)))));refine dg ah rfl rfl rfl ⟨by omega,by omega⟩ (aH rfl rfl ⟨by omega,by omega⟩ (ab 1 rfl (ae [0,1,5,6,7,8] ?_)));refine kI (fun(sv:Int)=>put (put (put (put (put (put (emp) 0 (.val (.slice A (ao x).length c))) 1 (.val (.slice A' (ao y).length c'))) 5 (.val (.slice (some ⟨g,0,none⟩) ((ao x).length+(ao y).length+1) ((ao x).length+(ao y).length+1)))) 6 (.val (.int .i64 (i:Int)))) 7 (.val (.int .u64 sv))) 8 (.val (.int .i64 (j:Int)))) (fun(sv:Int) H'=>H'=ins H g (dH o2 ((ao x).length+(ao y).length+1))∧sv=((d*p+e+cr:Nat):Int)) ?_ ?_
   ·
    refine ag (ab 4 rfl (ae [0,1,5,6,7,8,44] ?_));refine aD rfl (fun hb=> ?_) (fun hb=> ?_)
    ·
     have hb:j<(ao y).length:=by simpa using hb
     have ee:=getD_some hp hb;refine ep .bJ [0,1,2,3,4,5,6,7,8,9,10,11,12,13] follows (by kernel_rfl) ?_;refine ab 3 rfl (aS ah rfl rfl rfl rfl rfl (qJ _) (du hd) (by omega) (by omega) fun _=>(dg ah rfl rfl rfl ⟨by omega,by omega⟩ (ab 2 rfl (aS ah rfl rfl rfl rfl rfl (Gk _) (du ee) (by omega) (by omega) fun _=>(dg ah rfl rfl rfl ⟨by omega,by omega⟩ (gW rfl rfl ⟨by omega,by omega⟩ (aH rfl rfl ⟨by omega,by omega⟩ (ab 1 rfl (az ?_)))))))));exact⟨((d*p+e+cr:Nat):Int),au,rfl,rfl⟩
    have hb:(ao y).length≤j:=by simpa using hb
    have ee:=getD_none hp hb
    have PJ:d*p=0:=by rw[ee,Nat.mul_zero]
    refine aA ?_;exact⟨((d*p+e+cr:Nat):Int),au,rfl,rfl⟩
   rintro sv H4 ⟨rfl,wz⟩;refine ag (ab 3 rfl (aH rfl rfl ⟨by omega,by omega⟩ (ab 1 rfl (nh rfl rfl (by omega) (by omega) (dg ah rfl rfl rfl ⟨by omega,by omega⟩ ?_)))));obtain⟨ti,ak,al⟩:=oW;refine cV (.inl rfl) ah rfl rfl rfl (by omega) (by omega) (bF _ _ _) rfl (by rw[oY];omega) ak al (fun _=>rfl) rfl rfl rfl fun _=> ?_;refine ae [0,1,5,6,7,8] ?_;refine aC rfl (ab 1 rfl (l0 rfl rfl (by omega) (by omega) ⟨by omega,by omega⟩ (ab 1 rfl (az (aj [0,1,5,6,7,8] rfl ?_)))));refine aC rfl (ab 1 rfl (aH rfl rfl ⟨by omega,by omega⟩ (ab 1 rfl (az ?_))));refine⟨j+1,o2.set (i+j) ((d*p+e+cr)%B),(d*p+e+cr)/1000000000,by omega,au,by rw[u6 (y:=(d*p+e+cr)%B) (by rw[cn];omega),Gm],by omega,by simp[Gl],Bc.set (Nat.mod_lt _ nt),by omega,oZ.set (by omega),fun h=>(so (by omega)).set (by omega),fun h=> ?_,?_⟩
   ·
    have h1:=getD_none hp (by omega);have h2:=so (by omega) (i+j) e (by omega) he;subst h1 h2
    omega
   rw[yM,←hp];exact VR he dI rfl
 ·
  have hb:(ao x).length≤i:=by simpa using hb
  obtain rfl:i=(ao x).length:=by omega
  rw[List.take_length,cS]at hv;refine aW (aj [5] rfl ?_);refine ag (ab 1 rfl (aF rfl rfl (BT (AZ _ _ o _ _ cT.symm (Nat.le_refl _)) eD (by omega)) ?_));intro v1 H4 hp;refine ab 1 rfl (ae [4] ?_);refine aE ⟨.inr rfl,_,.tmp rfl (.nil),?_⟩;exact⟨(Heap.bC _ hg).trans hp.le,by have:=hp.nat;rwa [hv]at this⟩
theorem agI{H:Heap}{u:Value}{l:List Nat}{m:Nat}(hu:jB H u l)(hl:Lt l)(hm:m<1000000000)(wA:0<m)(hs:(l.length:Int)≤8796093022208):
 Fn Tryz.prog 192 #[u,.int .u64 (m:Int)] H (fun v H'=>Heap.le H H'∧∃q,v = .tuple #[q,.int .u64 ((val l%m:Nat):Int)]∧dh H' q (val l/m)):=by
 obtain⟨A,c,rfl,hc,hr⟩:=hu;refine aZ (args:=[_,_]) Tryz.func192 rfl rfl Tryz.ntmps192 rfl rfl fun w0=> ?_;refine aj [0,1] rfl ?_;refine ag (ab 2 rfl (ae [0,1] ?_));refine ag (ab 2 rfl (gJ Tryz.underlying29 eG rfl rfl rfl (by omega) (by omega) (by omega) (by omega) ?_));intro g hg;rw[show ((l.length:Int)).toNat=l.length from by omega,yQ];have qJ:=fun e=>hr.le (Heap.bC (g:=g) e hg);refine ab 1 rfl (ae [0,1,6] ?_);refine ag (ab 1 rfl (ae [0,1,6,7] ?_));refine aq (ag (ab 2 rfl (cY rfl rfl ⟨by omega,by omega⟩ (ab 1 rfl (ae [0,1,6,7,8] ?_)))));refine aG (fG (fun(k:Nat)(o:List Nat)(rs:Nat)=>k) (fun(k:Nat)(o:List Nat)(rs:Nat)=>put (put (put (put (put (emp) 0 (.val (.slice A l.length c))) 1 (.val (.int .u64 (m:Int)))) 6 (.val (.slice (some ⟨g,0,none⟩) l.length l.length))) 7 (.val (.int .u64 (rs:Int)))) 8 (.val (.int .i64 ((k:Int)-1)))) (fun(k:Nat)(o:List Nat)(rs:Nat) H'=>H'=ins H g (dH o l.length)∧k≤l.length∧o.length=l.length∧Lt o∧rs<m∧val (o.drop k)*m+rs=val (l.drop k)) l.length _ 0 (⟨rfl,by omega,by simp,Lt.replicate _,by omega,by simp[val]⟩) au ?_);rintro k o rs H1 ⟨rfl,hk,cT,eD,yS,hv⟩;refine aq ?_
 refine ag (ab 2 rfl (ae [0,1,6,7,8,16] ?_));refine aD rfl (fun hb=> ?_) (fun hb=> ?_)
 ·
  have hb:1≤k:=by simp at hb;omega
  obtain⟨k,rfl⟩:∃j,k=j+1:=⟨k-1,by omega⟩;obtain⟨d,hd⟩:∃d,l[k]? = some d:=⟨_,List.getElem?_eq_getElem (by omega)⟩;have l4:=hl.get hd;rw[cn]at l4
  have hj:(((k+1:Nat):Int)-1).toNat=k:=by omega
  have jD:((rs:Int)*1000000000+(d:Int))/(m:Int)<1000000000:=Int.ediv_lt_of_lt_mul (by omega) (by omega);have cC:0≤((rs:Int)*1000000000+(d:Int))/(m:Int):=Int.ediv_nonneg (by omega) (by omega);refine aA (aj [0,1,6,7,8] rfl ?_);refine aq (aG (ag (ab 1 rfl (gW rfl rfl ⟨by omega,by omega⟩ (ab 2 rfl (aS ah rfl rfl rfl rfl rfl (qJ _) (by rw[hj];exact du hd) (by omega) (by omega) fun _=> ?_))))));refine dg ah rfl rfl rfl ⟨by omega,by omega⟩ (aH rfl rfl ⟨by omega,by omega⟩ (ab 1 rfl (ae [0,1,6,7,8] ?_)));refine ag (ab 4 rfl (l0 rfl rfl (by omega) (by omega) ⟨by omega,by omega⟩ (dg ah rfl rfl rfl ⟨by omega,by omega⟩ ?_)));obtain⟨ti,ak,al⟩:=oW;refine cV (.inl rfl) ah rfl rfl rfl (by omega) (by omega) (bF _ _ _) rfl (by rw[oY];omega) ak al (fun _=>rfl) rfl rfl rfl fun _=> ?_;refine ae [0,1,6,7,8] ?_;refine aC rfl (ab 2 rfl (nh rfl rfl (by omega) (by omega) (ab 1 rfl (az (aj [0,1,6,7,8] rfl ?_)))));refine aC rfl (ab 1 rfl (cY rfl rfl ⟨by omega,by omega⟩ (ab 1 rfl (az ?_))))
  have hq:(rs*1000000000+d)/m<1000000000:=by rw[Nat.div_lt_iff_lt_mul wA];omega
  refine⟨k,o.set k ((rs*1000000000+d)/m),(rs*1000000000+d)%m,by omega,au,by rw[u6 (y:=(rs*1000000000+d)/m) (by simp)];rw[hj],by omega,by simp[cT],eD.set (by rw[cn];omega),Nat.mod_lt _ wA,?_⟩;rw[set_drop (by omega),Dq hd,jA,jA,←hv];have:=Nat.div_add_mod (rs*1000000000+d) m
  simp only[cn,Nat.add_mul,Nat.mul_add,Nat.mul_assoc]
  rw[Nat.mul_comm m]at this
  omega
 ·
  have hb:k=0:=by simp at hb;omega
  subst hb
  simp only[List.drop_zero]at hv
  refine aW (aj [6,7] rfl ?_);refine ag (ab 1 rfl (aF rfl rfl (BT (AZ _ _ o _ _ cT.symm (Nat.le_refl _)) eD (by omega)) ?_));intro v1 H4 hp;refine ab 3 rfl (ae [4,5] ?_);refine aE ⟨.inr rfl,_,.tmp rfl (.tmp rfl (.nil)),?_⟩;refine⟨(Heap.bC _ hg).trans hp.le,v1,?_,?_⟩
  ·rw[(KK hv yS).2];rfl
  ·rw[(KK hv yS).1];exact hp.nat
end Go.aw
namespace Go.aw
open Go.Proofs Num
def agJ(H:Heap)(v:Value)(H':Heap):Prop:=H'=H∧∃d:Nat,v = .int .u64 (d:Int)∧d≤999999999
theorem agK{H:Heap}{u v:Value}{x y:Nat}(hx:dh H u x)(hy:dh H v y)(Ep:2≤(ao y).length)(qK:(ao x).length≤(ao y).length+1)(hm:((ao y).length:Int)≤8796093022208):
 Fn Tryz.prog 193 #[u,v] H (agJ H):=by
 obtain⟨A,c,rfl,hc,hr⟩:=hx
 obtain⟨A',c',rfl,jO,dU⟩:=hy
 have jC:=(fQ x).lt
 have eF:=(fQ y).lt
 obtain⟨k,hk⟩:∃k,(ao y).length=k+2:=⟨(ao y).length-2,by omega⟩
 have vf:(((ao y).length:Int)-1).toNat=k+1:=by omega
 have wB:(((ao y).length:Int)-2).toNat=k:=by omega
 obtain⟨b1,fa⟩:∃z,(ao y)[k+1]? = some z:=⟨_,List.getElem?_eq_getElem (by omega)⟩
 obtain⟨b0,iS⟩:∃z,(ao y)[k]? = some z:=⟨_,List.getElem?_eq_getElem (by omega)⟩
 have agL:=eF.get fa
 have agM:=eF.get iS
 have amF:b1≠0:=(fQ y).last b1 (by rw[List.getLast?_eq_getElem?,hk];exact fa)
 rw[cn]at agL agM;refine aZ (args:=[_,_]) Tryz.func193 rfl rfl Tryz.ntmps193 rfl rfl fun w0=> ?_;refine aj [0,1] rfl ?_;refine ag (ab 1 rfl (ae [0,1] ?_));refine ag (ab 3 rfl (ae [0,1,5] ?_));refine aq (ag (ab 4 rfl (ae [0,1,5,15] ?_)));refine aD rfl (fun hb=> ?_) (fun hb=> ?_)
 ·
  skip
  refine ag (ab 1 rfl (ae [4] ?_));refine aE ⟨.inr rfl,_,.tmp rfl (.nil),?_⟩;exact⟨rfl,0,rfl,by omega⟩
 ·
  have hb:(ao y).length≤(ao x).length:=by simpa using hb
  obtain⟨r1,tf⟩:∃z,(ao x)[k+1]? = some z:=⟨_,List.getElem?_eq_getElem (by omega)⟩;obtain⟨r0,tg⟩:∃z,(ao x)[k]? = some z:=⟨_,List.getElem?_eq_getElem (by omega)⟩;have LW:=jC.get tf;have agN:=jC.get tg;rw[cn]at LW agN;have jD:((r1:Int)*1000000000+(r0:Int))/((b1:Int)*1000000000+(b0:Int))<1000000000:=Int.ediv_lt_of_lt_mul (by omega) (by omega);have cC:0≤((r1:Int)*1000000000+(r0:Int))/((b1:Int)*1000000000+(b0:Int)):=Int.ediv_nonneg (by omega) (by omega);obtain⟨q,hq⟩:∃q:Nat,(q:Int)=((r1:Int)*1000000000+(r0:Int))/((b1:Int)*1000000000+(b0:Int)):=⟨_,Int.toNat_of_nonneg cC⟩;rw[←hq]at jD;refine aA (aj [0,1,5] rfl ?_);refine bP .bJ [0,1,2,3,4,5,6,7,8,9,10,11,12,13,14] follows (by kernel_rfl) ?_;refine ab 2 rfl (cY rfl rfl ⟨by omega,by omega⟩ (aS ah rfl rfl rfl rfl rfl (dU) (by rw[vf];exact du fa) (by omega) (by omega) fun _=> ?_));refine dg ah rfl rfl rfl ⟨by omega,by omega⟩ (gW rfl rfl ⟨by omega,by omega⟩ (ab 2 rfl (cY rfl rfl ⟨by omega,by omega⟩ (aS ah rfl rfl rfl rfl rfl (dU) (by rw[wB];exact du iS) (by omega) (by omega) fun _=> ?_))));refine dg ah rfl rfl rfl ⟨by omega,by omega⟩ (aH rfl rfl ⟨by omega,by omega⟩ (ab 1 rfl (ae [0,5,6] ?_)))
  refine bP .bJ [0,1,2,3,4,5,6,7,8,9,10,11,12,13,14] follows (by kernel_rfl) ?_;refine ab 2 rfl (cY rfl rfl ⟨by omega,by omega⟩ (aS ah rfl rfl rfl rfl rfl (hr) (by rw[vf];exact du tf) (by omega) (by omega) fun _=> ?_));refine dg ah rfl rfl rfl ⟨by omega,by omega⟩ (gW rfl rfl ⟨by omega,by omega⟩ (ab 2 rfl (cY rfl rfl ⟨by omega,by omega⟩ (aS ah rfl rfl rfl rfl rfl (hr) (by rw[wB];exact du tg) (by omega) (by omega) fun _=> ?_))));refine dg ah rfl rfl rfl ⟨by omega,by omega⟩ (aH rfl rfl ⟨by omega,by omega⟩ (ab 1 rfl (ae [0,5,6,7] ?_)));refine aq (ag (ab 4 rfl (ae [0,5,6,7,47] ?_)));refine aD rfl (fun hb=> ?_) (fun hb=> ?_)
  ·
   skip
   refine ag (ab 2 rfl (l0 rfl rfl (by omega) (by omega) ⟨by rw[←hq];omega,by rw[←hq];omega⟩ ?_));rw[←hq];refine ab 1 rfl (ae [4] ?_);refine aE ⟨.inr rfl,_,.tmp rfl (.nil),?_⟩;exact⟨rfl,q,rfl,by omega⟩
  have hb:(ao x).length=(ao y).length+1:=by simp at hb;omega
  obtain⟨rn,XP⟩:∃z,(ao x)[(ao y).length]? = some z:=⟨_,List.getElem?_eq_getElem (by omega)⟩;refine aA (aj [0,5,6,7] rfl ?_);refine ag (ab 2 rfl (aS ah rfl rfl rfl rfl rfl (hr) (du XP) (by omega) (by omega) fun _=>(OL Tryz.underlying121 Tryz.underlying214 rfl fun f1=>(OM (.inr (.inl rfl)) rfl rfl fun f2=>(ab 1 rfl (OL Tryz.underlying120 Tryz.underlying214 rfl fun f3=>(OM (.inl rfl) rfl rfl fun f4=>(ab 1 rfl (ae [6,8] ?_)))))))));refine ag (ab 2 rfl (OL Tryz.underlying120 Tryz.underlying214 rfl fun f5=>(OM (.inr (.inr rfl)) rfl rfl fun f6=>(ac8 Tryz.underlying214 Tryz.underlying120 rfl fun f7 Qx=>(ab 1 rfl (ae [9] ?_))))));refine ag (ab 1 rfl (acN (v:=((f7:Int)+2)%18446744073709551616) rfl rfl rfl (Vv rfl rfl ?_)))
  generalize hmn:(if (999999999:Int)<((f7:Int)+2)%18446744073709551616 then(999999999:Int)else((f7:Int)+2)%18446744073709551616)=mn
  have amG:0≤mn∧mn≤999999999:=by rw[←hmn];split <;> omega
  obtain⟨q2,rfl⟩:∃q2:Nat,mn=(q2:Int):=⟨mn.toNat,by omega⟩;refine ab 1 rfl (ae [4] ?_);refine aE ⟨.inr rfl,_,.tmp rfl (.nil),?_⟩;exact⟨rfl,q2,rfl,by omega⟩
end Go.aw
