/- Part 6 of the proof: Tab5, Tab6, Tab7, Eng13, Tab8, Ref1, Ref2, Ref3, Ref4. -/
import Derived.Test.YtfjncmjbhfdnpaaGreatA05
set_option linter.unusedVariables false
namespace Go.au
open Go.Proofs Num Lp
def TL.pF(L:TL)(j:Nat):Nat:=L.plus.getD j 0
def TL.mZ(L:TL)(j:Nat):Int:=L.minus.getD j (-1)
def TL.mF(L:TL)(j:Nat):Option Nat:=if 0≤L.mZ j then some (L.mZ j).toNat else none
def TL.uF(L:TL)(i:Nat):Nat:=L.eG.getD i 0
def TL.sF(L:TL)(i:Nat):Rat:=fn L.j7 i
structure TL.Ok(L:TL)(n m:Nat):Prop where
 LF:L.plus.length=n
 LG:L.minus.length=n
 Qw:L.eG.length=m
 Qx:L.j7.length=m
 pw:∀j,j<n→L.pF j<L.w
 mw:∀j,j<n→L.mZ j<L.w
 uw:∀i,i<m→L.uF i<L.w
 s1:∀i,i<m→aO (L.sF i)≤1
section
variable {L:TL} {n m:Nat}
theorem TL.Ok.p(h:L.Ok n m){j:Nat}(hj:j<n):L.plus[j]? = some (L.pF j):=by
 have:j<L.plus.length:=by rw[h.LF];exact hj
 simp[TL.pF,List.getD,List.getElem?_eq_getElem this]
theorem TL.Ok.mi(h:L.Ok n m){j:Nat}(hj:j<n):L.minus[j]? = some (L.mZ j):=by
 have:j<L.minus.length:=by rw[h.LG];exact hj
 simp[TL.mZ,List.getD,List.getElem?_eq_getElem this]
theorem TL.Ok.u(h:L.Ok n m){i:Nat}(hi:i<m):L.eG[i]? = some (L.uF i):=by
 have:i<L.eG.length:=by rw[h.Qw];exact hi
 simp[TL.uF,List.getD,List.getElem?_eq_getElem this]
theorem TL.Ok.s(h:L.Ok n m){i:Nat}(hi:i<m):L.j7[i]? = some (L.sF i):=by
 have:i<L.j7.length:=by rw[h.Qx];exact hi
 simp[TL.sF,fn,List.getD,List.getElem?_eq_getElem this]
end
theorem agh{α:Type}(l:List α)(k:Nat)(a b:α):(l.set k a).set k b=l.set k b:=by simp
theorem Qy{K:Heap}{xs vs:List Value}{l:List (Option Rat)}{k:Nat}{q:Rat}(h:bC (ib bR K) 3 xs l)(hk:k<l.length)(hv:bR K vs q):bC (ib bR K) 3 (aL xs (k*3) vs) (l.set k (some q)):=h.set hk (show ib bR K vs (some q)from hv) hv.len
theorem XD{K:Heap}{xs:List Value}{f:Nat→Rat}{n:Nat}(h:bC (ib bR K) 3 xs (fill (aK f n) n)):bC (bR K) 3 xs (aK f n):=DQ (by rw[bg];exact h)
theorem XE{H:Heap}{G:TG}{L:TL}{T:aq}{n m N:Nat}{v:Value}{f:Nat→Rat}(h:dC H G L T)(hL:L.Ok n m)(hv:aR bR 3 (rem H G.gs) v (aK f L.w))(hf:∀j,j<L.w→aO (f j)≤N)(hN:(N:Int)≤274877906944)(hw:(L.w:Int)≤1000000)(hn:(n:Int)≤1000000):
 Fn Tryz.prog 132 #[.pointer (some ⟨G.g,0,none⟩),v] H (D3 bZ 3 G.gs H (aK (dB.vec L.pF L.mF f) n)):=by
 obtain⟨Av,cv,xv,rfl,l5,uD⟩:=hv.num
 rw[bg]
 have GY:=h.self
 obtain⟨Ap,cp,xp,rZ,l4,BB⟩:=GY.plus.one
 obtain⟨Am,cm,xm,vn,j8,GZ⟩:=GY.minus.one
 rw[hL.LF]at rZ
 rw[hL.LG]at vn
 obtain⟨l,hl⟩:∃l,l=dB.vec L.pF L.mF f:=⟨_,rfl⟩
 have dG:cell H ((⟨G.g,0,none⟩:Addr).add 2)=some (.slice Ap n cp):=by rw[←rZ];exact h.cell rfl
 refine a7 (args:=[_,_]) Tryz.func132 rfl rfl Tryz.ntmps132 rfl rfl fun w0=> ?_;refine aj [0,1] rfl ?_;refine ag (ab 1 rfl (ae [0,1] ?_));refine ag (ab 2 rfl (aU ah rfl rfl rfl (aS ah rfl rfl rfl (dG) (ab 1 rfl (gF Tryz.underlying85 fg rfl rfl rfl (by omega) (by omega) (by omega) (by omega) ?_)))));intro z ji;rw[show ((n:Int)).toNat=n from by omega];have kI:ft G.gs H _ z (cg [.int .i64 0,.int .i64 0,.pointer none] (n*3)) (n*3) 90:=ft.new h.ne ji
 have iw:bC (ib bR (rem (ins H z ⟨cg [.int .i64 0,.int .i64 0,.pointer none] (n*3),n*3,90,true⟩) (z::G.gs))) 3 (cg [.int .i64 0,.int .i64 0,.pointer none] (n*3)) (fill (aK l n) 0):=by have:=Bu (P:=bR) (H:=rem (ins H z ⟨cg [.int .i64 0,.int .i64 0,.pointer none] (n*3),n*3,90,true⟩) (z::G.gs)) (zs:=[.int .i64 0,.int .i64 0,.pointer none]) (sz:=3) (by rfl) (aK l n);rwa [bg]at this
 refine ab 1 rfl (ae [0,1,5] ?_);refine ao (ag (ab 3 rfl (ae [0,1,5,14,15] ?_)));refine aF (gX (fun(k:Nat)(xs:List Value)=>n-k) (fun(k:Nat)(xs:List Value)=>put (put (put (put (put (emp) 0 (.val (.pointer (some ⟨G.g,0,none⟩)))) 1 (.val (.slice Av L.w cv))) 5 (.val (.slice (some ⟨z,0,none⟩) n n))) 14 (.val (.int .i64 (n:Int)))) 15 (.val (.int .i64 (k:Int)))) (fun(k:Nat)(xs:List Value) H'=>ft G.gs H H' z xs (n*3) 90∧bC (ib bR (rem H' (z::G.gs))) 3 xs (fill (aK l n) k)∧k≤n) 0 _ (⟨kI,iw,Nat.zero_le _⟩) ar ?_);rintro k xs H2 ⟨eM,kU,fN⟩;have nz:=ny (l:=aK l n) (k:=k) (by rw[bg];exact fN);rw[bg]at nz;have cP:=kU.len;rw[nz]at cP;have lT:=eM.tab h;have mz:=eM.hle;refine ag (ab 1 rfl (ae [0,1,5,14,15,16] ?_));refine ao (aC rfl (fun hb=> ?_) (fun hb=> ?_))
 ·
  have gi:k<n:=by simpa using hb
  obtain⟨up,G6,G8⟩:=BB k _ (hL.p gi);obtain⟨um,zj,Hi⟩:=GZ k _ (hL.mi gi)
  cases G8
  cases Hi
  have yq:=hL.pw k gi;have XF:=hL.mw k gi;obtain⟨n1,d1,b1,dg,eV⟩:=uD _ _ (dJ yq);have iX:=hf _ yq;have agi:=l4.le mz;have amx:=j8.le mz;have D4:=(l5.le eM.le).le (bE _ _)
  have agj:cell H2 ((⟨G.g,0,none⟩:Addr).add 2)=some (.slice Ap n cp):=by rw[←rZ];exact lT.cell 2 _ rfl
  refine aA (aj [0,1,5,14,15] rfl ?_);refine ao (aF (ag (ab 2 rfl (ae [0,1,5,6,14,15] ?_))));refine ag (ab 5 rfl (aU ah rfl rfl rfl (aS ah rfl rfl rfl (agj) (ab 1 rfl (aQ ah rfl rfl rfl rfl rfl (agi) (by rw[Int.toNat_natCast];exact G6) (by omega) (by omega) fun _=> ?_)))));refine ck (vs:=[.int .i64 n1,.int .i64 d1,.pointer b1]) ah rfl rfl rfl rfl D4 rfl (by decide) (by rw[Int.toNat_natCast];exact eV) (by omega) (by omega) fun _=> ?_;obtain⟨ti,ak,al⟩:=cI;refine cQ (.inl rfl) ah rfl rfl rfl (by omega) (by omega) (eM.az) rfl (by show 0+n*3≤xs.length;omega) ak al (fun _=>rfl) rfl rfl rfl fun _=> ?_;refine ae [0,1,5,6,14,15] ?_;have kr:ft G.gs H _ z (aL xs (k*3) [.int .i64 n1,.int .i64 d1,.pointer b1]) (n*3) 90:=eM.set (pd (k:=k) (sz:=3))
  have xe:bC (ib bR (rem (ins H2 z {(⟨xs,n*3,90,true⟩:Ent)with xs:=aL xs (0+k*3) [.int .i64 n1,.int .i64 d1,.pointer b1]}) (z::G.gs))) 3 (aL xs (k*3) [.int .i64 n1,.int .i64 d1,.pointer b1]) ((fill (aK l n) k).set k (some (f (L.pF k)))):=by
   rw[cF _ (List.mem_cons_self ..)];exact Qy kU (by rw[nz];exact gi) (dg.le eM.le)
  generalize Hj:ins H2 z {(⟨xs,n*3,90,true⟩:Ent)with xs:=aL xs (0+k*3) [.int .i64 n1,.int .i64 d1,.pointer b1]}=H3 at kr xe
  have agk:ins H2 z {(⟨xs,n*3,90,true⟩:Ent)with xs:=aL xs (0+((k:Int)).toNat*3) [.int .i64 n1,.int .i64 d1,.pointer b1]}=H3:=Hj;rw[show ∀e:Ent,e = {(⟨xs,n*3,90,true⟩:Ent)with xs:=aL xs (0+((k:Int)).toNat*3) [.int .i64 n1,.int .i64 d1,.pointer b1]}→ins H2 z e=H3 from fun e he=>by rw[he];exact agk]
  rotate_left
  ·rfl
  have Pb:=kr.tab h;have XG:=j8.le kr.hle;have agl:=(l5.le kr.le).le (bE _ _)
  have gO:cell H3 ((⟨G.g,0,none⟩:Addr).add 3)=some (.slice Am n cm):=by rw[←vn];exact Pb.cell 3 _ rfl
  refine ag (ab 2 rfl (aU ah rfl rfl rfl (aS ah rfl rfl rfl (gO) (ab 1 rfl (aQ ah rfl rfl rfl rfl rfl (XG) (by rw[Int.toNat_natCast];exact zj) (by omega) (by omega) fun _=> ?_)))));refine ab 1 rfl (ae [0,1,5,6,14,15,38] ?_);refine aC rfl (fun hb=> ?_) (fun hb=> ?_)
  ·
   have hb:0≤L.mZ k:=by simpa using hb
   obtain⟨n2,d2,b2,gN,eP⟩:=uD _ _ (dJ (show (L.mZ k).toNat<L.w by omega));have jV:=hf (L.mZ k).toNat (by omega)
   have gA:∀(j:Nat)(u:Value),[.int .i64 n1,.int .i64 d1,.pointer b1][j]? = some u→(aL xs (k*3) [.int .i64 n1,.int .i64 d1,.pointer b1])[k*3+j]? = some u:=fun j u hu=>by
    have hj:=(List.getElem?_eq_some_iff.1 hu).1
    simp only[List.length_cons,List.length_nil]at hj
    rw[PC _ _ _ _ (by simp only[List.length_cons,List.length_nil];omega),if_pos (by simp only[List.length_cons,List.length_nil];omega),Nat.add_sub_cancel_left];exact hu
   refine eu .gD [0,1,2,3,4,5,6,7,8,9,10,11,12,13,14,15,16,17,18] follows (by kernel_rfl) ?_;refine ab 4 rfl (ck (vs:=[.int .i64 n1,.int .i64 d1,.pointer b1]) ah rfl rfl rfl rfl (dS kr.az) rfl (by decide) (by rw[Int.toNat_natCast];exact gA) (by omega) (by omega) fun _=> ?_);refine ab 3 rfl (aU ah rfl rfl rfl (aS ah rfl rfl rfl (gO) (ab 1 rfl (aQ ah rfl rfl rfl rfl rfl (XG) (by rw[Int.toNat_natCast];exact zj) (by omega) (by omega) fun _=> ?_))));refine ck (vs:=[.int .i64 n2,.int .i64 d2,.pointer b2]) ah rfl rfl rfl rfl agl rfl (by decide) eP (by omega) (by omega) fun _=>(bm rfl rfl (Fn.lB (kr.ne h.ne) (DP (N:=N) (dg.le kr.le) (gN.le kr.le) iX jV (by omega))) (fun _ _ h=>by first | exact h.le | exact h.1) ?_);rintro v4 H4 ⟨gj,dW,n4,d4,b4,rfl,cJ⟩;have r6:=kr.kept gj
   have amy:(aL xs (k*3) [.int .i64 n1,.int .i64 d1,.pointer b1]).length=n*3:=by rw[FI];exact cP
   obtain⟨ti,ak,al⟩:=cI;refine cQ (.inr rfl) ah rfl rfl rfl (by omega) (by omega) (r6.az) rfl (by show 0+n*3≤(aL xs (k*3) [.int .i64 n1,.int .i64 d1,.pointer b1]).length;omega) ak al (fun _=>rfl) rfl rfl rfl fun _=> ?_;refine aw (aj [0,1,5,14,15] rfl ?_);refine aB rfl (aG rfl rfl ⟨by omega,by omega⟩ (ab 1 rfl (aw ?_)));exact⟨k+1,aL (aL xs (k*3) [.int .i64 n1,.int .i64 d1,.pointer b1]) (k*3) [.int .i64 n4,.int .i64 d4,.pointer b4],by omega,ar,r6.set pd,by rw[cF _ (List.mem_cons_self ..),←y7 (a:=f (L.pF k)-f (L.mZ k).toNat) (by rw[dJ gi,hl];unfold dB.vec TL.mF;rw[if_pos hb];rfl),←agh (fill (aK l n) k) k (some (f (L.pF k)))];exact Qy (xe.mono fun vs a=>ib.up jh _ _ vs a gj.le) (by rw[List.length_set,nz];exact gi) cJ,by omega⟩
  ·
   have hb:¬0≤L.mZ k:=by simpa using hb
   refine aA (aj [0,1,5,14,15] rfl ?_);refine aB rfl (aG rfl rfl ⟨by omega,by omega⟩ (ab 1 rfl (aw ?_)));exact⟨k+1,aL xs (k*3) [.int .i64 n1,.int .i64 d1,.pointer b1],by omega,ar,kr,by rw[←y7 (a:=f (L.pF k)) (by rw[dJ gi,hl];unfold dB.vec TL.mF;rw[if_neg hb];simp only[ia];rw[show f (L.pF k)-0=f (L.pF k) by grind])];exact xe,by omega⟩
 ·
  have hb:n≤k:=by simpa using hb
  obtain rfl:k=n:=by omega
  have l6:=eM.done;refine aV (aj [5] rfl ?_);refine ag (vr 1 ?_)
  refine aE rfl rfl (Fn.LC (l6.1.ne h.ne) (W4 (l:=aK l k) ⟨some ⟨z,0,none⟩,k,xs,by rw[bg],by rw[bg];exact Nat.le_refl _,eM.rd,(XD kU).mono fun vs a=>jh _ _ vs a l6.2⟩ (fun q hq=>by
  obtain⟨j,hj,rfl⟩:=List.mem_map.1 hq;have hj:=List.mem_range.1 hj;rw[hl];have h1:=hf _ (hL.pw j hj);have h2:=hL.mw j hj
  unfold dB.vec TL.mF
  split
  ·
   have h3:=hf (L.mZ j).toNat (by omega);have h4:=tv (f (L.pF j)) (f (L.mZ j).toNat)
   simp only[ia];omega
  ·
   have h4:=tv (f (L.pF j)) 0;rw[W1]at h4
   simp only[ia];omega) (by rw[bg];omega))) ?_
  rintro v9 H9 ⟨gQ,ix,r7⟩;refine ab 1 rfl (ae [4] ?_);refine aD ⟨.inr rfl,_,.tmp rfl (.nil),?_⟩;exact⟨l6.1.trans gQ,eM.hle.trans ix,by rw[←hl];exact r7⟩
end Go.au
namespace Go.au
open Go.Proofs Num Lp
def zk(T:aq)(k j:Nat):Rat:=bo k (fun i=>if T.B i=j then T.A i T.n else 0)
def BF(T:aq)(s k j:Nat):Rat:=(if j=s then 1 else 0)-bo k (fun i=>if T.B i=j then T.A i s else 0)
theorem agm{T:aq}(hW:T.WF){k:Nat}(hk:k<T.m)(j:Nat):zk T (k+1) j=bV (zk T k) (T.B k) (T.A k T.n) j:=by
 unfold zk bV
 rw[fW]
 by_cases e:j=T.B k
 ·rw[if_pos e,if_pos e.symm,mG]
  ·grind
  ·intro i hi
   rw[if_neg (fun e'=>by have:=hW.inj (by omega) hk (e'.trans e);omega)]
 ·rw[if_neg e,if_neg (fun e'=>e e'.symm)];grind
theorem agn{T:aq}{j:Nat}(hj:j<T.n):zk T T.m j=T.pt j:=by
 unfold zk aq.pt
 rw[if_neg (by omega)]
theorem ago{T:aq}(hW:T.WF){s k:Nat}(hs:∀i,i<T.m→T.B i≠s)(hk:k<T.m)(j:Nat):BF T s (k+1) j=bV (BF T s k) (T.B k) (-(T.A k s)) j:=by
 unfold BF bV
 rw[fW]
 by_cases e:j=T.B k
 ·rw[if_pos e,if_pos e.symm,mG,if_neg (fun e'=>hs k hk (by rw[←e,e']))]
  ·grind
  ·intro i hi
   rw[if_neg (fun e'=>by have:=hW.inj (by omega) hk (e'.trans e);omega)]
 ·rw[if_neg e]
  have e2:(if T.B k=j then T.A k s else 0)=0:=if_neg (fun e'=>e e'.symm)
  rw[e2];grind
theorem XH{H:Heap}{G:TG}{L:TL}{T:aq}{n m N:Nat}(h:dC H G L T)(hW:T.WF)(hL:L.Ok n m)(hz:∀j,j<L.w→aO (T.pt j)≤N)(hN:(N:Int)≤274877906944)(hw:(L.w:Int)≤1000000)(hn:(n:Int)≤1000000)(hm:(T.m:Int)≤1000000):
 Fn Tryz.prog 59 #[.pointer (some ⟨G.g,0,none⟩)] H (D3 bZ 3 G.gs H (aK (dB.vec L.pF L.mF T.pt) n)):=by
 obtain⟨Ab,cb,dh,_⟩:=h.self.bv;refine a7 (args:=[_]) Tryz.func59 rfl rfl Tryz.ntmps59 rfl rfl fun w0=> ?_;refine aj [0] rfl ?_;refine ag (ab 1 rfl (ae [0] ?_));refine ag (ab 2 rfl (aU ah rfl rfl rfl (aS ah rfl rfl rfl (h.iR) (aE rfl rfl (GV h.ne (by omega)) ?_))));rintro v1 H1 ⟨cH,z,xs,rfl,kI,iw⟩;have gq:=kI.tab h;refine ab 1 rfl (ae [0,3] ?_);refine ao (ag (ab 2 rfl (aU ah rfl rfl rfl (aS ah rfl rfl rfl (show cell H1 _=some (.slice Ab T.m cb)from by rw[←dh];exact gq.cell 8 _ rfl) ?_))));refine ab 2 rfl (ae [0,3,14,15,16] ?_);refine aF (gX (fun(k:Nat)(xs:List Value)=>T.m-k) (fun(k:Nat)(xs:List Value)=>put (put (put (put (put (emp) 0 (.val (.pointer (some ⟨G.g,0,none⟩)))) 3 (.val (.slice (some ⟨z,0,none⟩) L.w L.w))) 14 (.val (.slice Ab T.m cb))) 15 (.val (.int .i64 (T.m:Int)))) 16 (.val (.int .i64 (k:Int)))) (fun(k:Nat)(xs:List Value) H'=>ft G.gs H H' z xs (L.w*3) 90∧bC (bR (rem H' (z::G.gs))) 3 xs (aK (zk T k) L.w)∧k≤T.m) 0 xs (⟨kI,by rw[lz (f:=zk T 0) (g:=fun _=>0) (fun j _=>rfl)];exact iw _,Nat.zero_le _⟩) ar ?_);rintro k xs H2 ⟨eM,kU,fN⟩;have lT:=eM.tab h;have cP:=kU.len;rw[bg]at cP
 refine ag (ab 1 rfl (ae [0,3,14,15,16,17] ?_));refine ao (aC rfl (fun hb=> ?_) (fun hb=> ?_))
 ·
  have lD:k<T.m:=by simpa using hb
  obtain⟨Qu,w9,gA⟩:=lT.rows;obtain⟨pk,qI,yY⟩:=gA k lD;have Hk:=hW.lt k lD;rw[h.n]at Hk;obtain⟨A3,c3,r8,BG⟩:=lT.bv;rw[dh]at r8
  obtain⟨rfl,-,rfl⟩:Ab=A3∧T.m=T.m∧cb=c3:=by simpa using r8
  have rV:=lT.cell 6 _ rfl;obtain⟨xw,n1,d1,b1,GN,dg,GO⟩:=yY.rd (dJ (show L.w<L.w+1 by omega));refine aA (aj [0,3,14,15,16] rfl ?_);refine ao (aF (ag (ab 1 rfl (aQ ah rfl rfl rfl rfl rfl (BG) (by rw[Int.toNat_natCast];exact gI lD) (by omega) (by omega) fun _=> ?_))));refine ab 2 rfl (ae [0,3,4,5,14,15,16] ?_);refine eu .gD [0,1,2,3,4,5,6,7,8,9,10,11,12,13,14,15,16] follows (by kernel_rfl) ?_;refine ab 4 rfl (aU ah rfl rfl rfl (aS ah rfl rfl rfl (rV) (ab 1 rfl (aQ ah rfl rfl rfl rfl rfl (w9) (by rw[Int.toNat_natCast];exact qI) (by omega) (by omega) fun _=> ?_))));refine ab 2 rfl (aU ah rfl rfl rfl (aS ah rfl rfl rfl (by have:=lT.cell 0 _ rfl;rwa [iN]at this) ?_));refine ck (vs:=[.int .i64 n1,.int .i64 d1,.pointer b1]) ah rfl rfl rfl rfl GN rfl (by decide) (by rw[Int.toNat_natCast];exact GO) (by omega) (by omega) fun _=> ?_;obtain⟨ti,ak,al⟩:=cI;refine cQ (.inr rfl) ah rfl rfl rfl (by omega) (by omega) (eM.az) rfl (by show 0+L.w*3≤xs.length;omega) ak al (fun _=>rfl) rfl rfl rfl fun _=> ?_;refine aw (aj [0,3,14,15,16] rfl ?_);refine aB rfl (aG rfl rfl ⟨by omega,by omega⟩ ?_)
  refine ab 1 rfl (aw ?_);exact⟨k+1,aL xs (T.B k*3) [.int .i64 n1,.int .i64 d1,.pointer b1],by omega,ar,eM.set (by rw[Int.toNat_natCast];exact pd),by rw[cF _ (List.mem_cons_self ..),lz (g:=bV (zk T k) (T.B k) (T.A k T.n)) (fun j _=>agm hW lD j),h.n];exact rX kU Hk dg,by omega⟩
 ·
  have hb:T.m≤k:=by simpa using hb
  obtain rfl:k=T.m:=by omega
  have l6:=eM.done;rw[lz (g:=T.pt) (fun j hj=>agn (by rw[h.n];exact hj))]at kU;refine aV (aj [0,3] rfl ?_);refine ag (ab 2 rfl (aE rfl rfl (XE (h.kept l6.1) hL (v:= .slice (some ⟨z,0,none⟩) L.w L.w) (f:=T.pt) ⟨some ⟨z,0,none⟩,L.w,xs,by rw[bg],by rw[bg];exact Nat.le_refl _,eM.rd,kU.mono fun vs a=>jh _ _ vs a l6.2⟩ hz hN hw hn) ?_));rintro v9 H9 ⟨gQ,ix,r7⟩;refine ab 1 rfl (ae [2] ?_);refine aD ⟨.inr rfl,_,.tmp rfl (.nil),?_⟩;exact⟨l6.1.trans gQ,eM.hle.trans ix,r7⟩
theorem agp{H:Heap}{G:TG}{L:TL}{T:aq}{n m N s:Nat}(h:dC H G L T)(hW:T.WF)(hL:L.Ok n m)(hs:s<L.w)(D5:∀i,i<T.m→T.B i≠s)(cK:∀i,i<T.m→aO (T.A i s)≤N)(hz:∀j,j<L.w→aO (T.dir s j)≤N)(hN:(N:Int)≤274877906944)(hw:(L.w:Int)≤1000000)(hn:(n:Int)≤1000000)(hm:(T.m:Int)≤1000000):
 Fn Tryz.prog 60 #[.pointer (some ⟨G.g,0,none⟩),.int .i64 (s:Int)] H (D3 bZ 3 G.gs H (aK (dB.vec L.pF L.mF (T.dir s)) n)):=by
 obtain⟨Ab,cb,dh,_⟩:=h.self.bv;refine a7 (args:=[_,_]) Tryz.func60 rfl rfl Tryz.ntmps60 rfl rfl fun w0=> ?_;refine aj [0,1] rfl ?_;refine ag (ab 1 rfl (ae [0,1] ?_));refine ag (ab 2 rfl (aU ah rfl rfl rfl (aS ah rfl rfl rfl (h.iR) (aE rfl rfl (GV h.ne (by omega)) ?_))));rintro v1 H1 ⟨cH,z,xs,rfl,kI,iw⟩;have agq:=(iw H).len;rw[bg]at agq;refine ab 1 rfl (ae [0,1,5] ?_);refine ag (ab 2 rfl (aE rfl rfl (wR) ?_));rintro v3 H3 ⟨e3,rfl⟩;rw[e3];obtain⟨ti,ak,al⟩:=cI;refine cQ (.inl rfl) ah rfl rfl rfl (by omega) (by omega) (kI.az) rfl (by show 0+L.w*3≤xs.length;omega) ak al (fun _=>rfl) rfl rfl rfl fun _=> ?_;refine ae [0,1,5] ?_;have D8:ft G.gs H (ins H1 z {(⟨xs,L.w*3,90,true⟩:Ent)with xs:=aL xs (0+((s:Int)).toNat*3) [.int .i64 1,.int .i64 1,.pointer none]}) z (aL xs (s*3) [.int .i64 1,.int .i64 1,.pointer none]) (L.w*3) 90:=kI.set (by rw[Int.toNat_natCast];exact pd);have gq:=D8.tab h;refine ao (ag (ab 2 rfl (aU ah rfl rfl rfl (aS ah rfl rfl rfl (show cell _ _=some (.slice Ab T.m cb)from by rw[←dh];exact gq.cell 8 _ rfl) ?_))));refine ab 2 rfl (ae [0,1,5,20,21,22] ?_)
 refine aF (gX (fun(k:Nat)(xs:List Value)=>T.m-k) (fun(k:Nat)(xs:List Value)=>put (put (put (put (put (put (emp) 0 (.val (.pointer (some ⟨G.g,0,none⟩)))) 1 (.val (.int .i64 (s:Int)))) 5 (.val (.slice (some ⟨z,0,none⟩) L.w L.w))) 20 (.val (.slice Ab T.m cb))) 21 (.val (.int .i64 (T.m:Int)))) 22 (.val (.int .i64 (k:Int)))) (fun(k:Nat)(xs:List Value) H'=>ft G.gs H H' z xs (L.w*3) 90∧bC (bR (rem H' (z::G.gs))) 3 xs (aK (BF T s k) L.w)∧k≤T.m) 0 (aL xs (s*3) [.int .i64 1,.int .i64 1,.pointer none]) (⟨D8,by rw[lz (g:=bV (fun _=>0) s 1) (fun j _=>by unfold BF bV;rw[Bf];split <;> grind)];exact rX (iw _) hs (wQ _ (n:=1) (by decide) (by decide)),Nat.zero_le _⟩) ar ?_);rintro k xs H2 ⟨eM,kU,fN⟩;have lT:=eM.tab h;have cP:=kU.len;rw[bg]at cP;refine ag (ab 1 rfl (ae [0,1,5,20,21,22,23] ?_));refine ao (aC rfl (fun hb=> ?_) (fun hb=> ?_))
 ·
  have lD:k<T.m:=by simpa using hb
  obtain⟨Qu,w9,gA⟩:=lT.rows;obtain⟨pk,qI,yY⟩:=gA k lD;have Hk:=hW.lt k lD;rw[h.n]at Hk;obtain⟨A3,c3,r8,BG⟩:=lT.bv;rw[dh]at r8
  obtain⟨rfl,-,rfl⟩:Ab=A3∧T.m=T.m∧cb=c3:=by simpa using r8
  have rV:=lT.cell 6 _ rfl;obtain⟨xw,n1,d1,b1,GN,dg,GO⟩:=yY.rd (dJ (show s<L.w+1 by omega));have Qn:=cK k lD;refine aA (aj [0,1,5,20,21,22] rfl ?_);refine ao (aF (ag (ab 1 rfl (aQ ah rfl rfl rfl rfl rfl (BG) (by rw[Int.toNat_natCast];exact gI lD) (by omega) (by omega) fun _=> ?_))));refine ab 2 rfl (ae [0,1,5,6,7,20,21,22] ?_);refine aB rfl (ab 4 rfl (aU ah rfl rfl rfl (aS ah rfl rfl rfl (rV) (ab 1 rfl (aQ ah rfl rfl rfl rfl rfl (w9) (by rw[Int.toNat_natCast];exact qI) (by omega) (by omega) fun _=> ?_)))));refine ab 1 rfl (ck (vs:=[.int .i64 n1,.int .i64 d1,.pointer b1]) ah rfl rfl rfl rfl GN rfl (by decide) (by rw[Int.toNat_natCast];exact GO) (by omega) (by omega) fun _=> ?_);refine aE rfl rfl (Fn.lB (eM.ne h.ne) (DJ dg (by omega))) ?_;rintro v4 H4 ⟨gj,dW,n4,d4,b4,rfl,cJ⟩;have r6:=eM.kept gj;obtain⟨ti,ak,al⟩:=cI;refine cQ (.inl rfl) ah rfl rfl rfl (by omega) (by omega) (r6.az) rfl (by show 0+L.w*3≤xs.length;omega) ak al (fun _=>rfl) rfl rfl rfl fun _=> ?_;refine aw (aj [0,1,5,20,21,22] rfl ?_);refine aB rfl (aG rfl rfl ⟨by omega,by omega⟩ (vr 1 ?_))
  refine aw ?_;exact⟨k+1,aL xs (T.B k*3) [.int .i64 n4,.int .i64 d4,.pointer b4],by omega,ar,r6.set (by rw[Int.toNat_natCast];exact pd),by rw[cF _ (List.mem_cons_self ..),lz (g:=bV (BF T s k) (T.B k) (-(T.A k s))) (fun j _=>ago hW D5 lD j)];exact rX (kU.mono fun vs a=>jh _ _ vs a gj.le) Hk cJ,by omega⟩
 ·
  have hb:T.m≤k:=by simpa using hb
  obtain rfl:k=T.m:=by omega
  have l6:=eM.done;rw[lz (f:=BF T s T.m) (g:=T.dir s) (fun j hj=>rfl)]at kU;refine aV (aj [0,5] rfl ?_);refine ag (ab 2 rfl (aE rfl rfl (XE (h.kept l6.1) hL (v:= .slice (some ⟨z,0,none⟩) L.w L.w) (f:=T.dir s) ⟨some ⟨z,0,none⟩,L.w,xs,by rw[bg],by rw[bg];exact Nat.le_refl _,eM.rd,kU.mono fun vs a=>jh _ _ vs a l6.2⟩ hz hN hw hn) ?_));rintro v9 H9 ⟨gQ,ix,r7⟩;refine ab 1 rfl (ae [4] ?_);refine aD ⟨.inr rfl,_,.tmp rfl (.nil),?_⟩;exact⟨l6.1.trans gQ,eM.hle.trans ix,r7⟩
theorem XI{H:Heap}{G:TG}{L:TL}{T:aq}{n m N:Nat}{v:Value}{f:Nat→Rat}(h:dC H G L T)(hc:iQ H G L T)(hL:L.Ok n m)(hv:aR bR 3 (rem H G.gs) v (aK f L.w))(hf:∀j,j<L.w→aO (f j)≤N)(LH:∀j,j<L.w→aO (T.c j)≤N)(hN:(N:Int)≤274877906944)(hw:(L.w:Int)≤1000000)(hm:(m:Int)≤1000000):
 Fn Tryz.prog 54 #[.pointer (some ⟨G.g,0,none⟩),v] H (D3 bZ 3 G.gs H (aK (fun i=>L.sF i*(f (L.uF i)-T.c (L.uF i))) m)):=by
 obtain⟨Av,cv,xv,rfl,l5,uD⟩:=hv.num
 rw[bg]
 have GY:=h.self
 obtain⟨Au,cu,xu,Hl,hru,hxu⟩:=GY.eG.one
 obtain⟨As,cs,xs5,wy,yM,Kj⟩:=GY.j7.num
 rw[hL.Qw]at Hl
 rw[hL.Qx]at wy
 obtain⟨l,hl⟩:∃l,l=(fun i=>L.sF i*(f (L.uF i)-T.c (L.uF i))):=⟨_,rfl⟩
 have rW:∀i,i<m→aO (l i)≤2*N+2:=fun i hi=>by
  have h1:=hf _ (hL.uw i hi)
  have h2:=LH _ (hL.uw i hi)
  have h3:=hL.s1 i hi
  have h4:=tv (f (L.uF i)) (T.c (L.uF i))
  have h5:=vc (L.sF i) (f (L.uF i)-T.c (L.uF i))
  rw[hl];show aO (L.sF i*(f (L.uF i)-T.c (L.uF i)))≤_
  omega
 have dW:cell H ((⟨G.g,0,none⟩:Addr).add 4)=some (.slice Au m cu):=by rw[←Hl];exact h.cell rfl
 obtain⟨gc,cc,GJ,bh,BD⟩:=id hc
 have j9:gc∈G.gs:=TG.zf (by rw[GJ];exact List.mem_singleton.2 rfl);refine a7 (args:=[_,_]) Tryz.func54 rfl rfl Tryz.ntmps54 rfl rfl fun w0=> ?_;refine aj [0,1] rfl ?_;refine ag (ab 1 rfl (ae [0,1] ?_));refine ag (ab 2 rfl (aU ah rfl rfl rfl (aS ah rfl rfl rfl (dW) (ab 1 rfl (gF Tryz.underlying85 fg rfl rfl rfl (by omega) (by omega) (by omega) (by omega) ?_)))));intro z ji;rw[show ((m:Int)).toNat=m from by omega];have kI:ft G.gs H _ z (cg [.int .i64 0,.int .i64 0,.pointer none] (m*3)) (m*3) 90:=ft.new h.ne ji
 have iw:bC (ib bR (rem (ins H z ⟨cg [.int .i64 0,.int .i64 0,.pointer none] (m*3),m*3,90,true⟩) (z::G.gs))) 3 (cg [.int .i64 0,.int .i64 0,.pointer none] (m*3)) (fill (aK l m) 0):=by have:=Bu (P:=bR) (H:=rem (ins H z ⟨cg [.int .i64 0,.int .i64 0,.pointer none] (m*3),m*3,90,true⟩) (z::G.gs)) (zs:=[.int .i64 0,.int .i64 0,.pointer none]) (sz:=3) (by rfl) (aK l m);rwa [bg]at this
 have gq:=kI.tab h;refine ab 1 rfl (ae [0,1,5] ?_);refine ao (ag (ab 2 rfl (aU ah rfl rfl rfl (aS ah rfl rfl rfl (show cell _ _=some (.slice Au m cu)from by rw[←Hl];exact gq.cell 4 _ rfl) ?_))));refine ab 2 rfl (ae [0,1,5,17,18,19] ?_);refine aF (gX (fun(k:Nat)(xs:List Value)=>m-k) (fun(k:Nat)(xs:List Value)=>put (put (put (put (put (put (emp) 0 (.val (.pointer (some ⟨G.g,0,none⟩)))) 1 (.val (.slice Av L.w cv))) 5 (.val (.slice (some ⟨z,0,none⟩) m m))) 17 (.val (.slice Au m cu))) 18 (.val (.int .i64 (m:Int)))) 19 (.val (.int .i64 (k:Int)))) (fun(k:Nat)(xs:List Value) H'=>ft G.gs H H' z xs (m*3) 90∧bC (ib bR (rem H' (z::G.gs))) 3 xs (fill (aK l m) k)∧k≤m) 0 _ (⟨kI,iw,Nat.zero_le _⟩) ar ?_);rintro k xs H2 ⟨eM,kU,fN⟩;have nz:=ny (l:=aK l m) (k:=k) (by rw[bg];exact fN);rw[bg]at nz;have cP:=kU.len;rw[nz]at cP;have lT:=eM.tab h;have mz:=eM.hle;refine ag (ab 1 rfl (ae [0,1,5,17,18,19,20] ?_));refine ao (aC rfl (fun hb=> ?_) (fun hb=> ?_))
 ·
  have gi:k<m:=by simpa using hb
  obtain⟨uu,huu,agr⟩:=hxu k _ (hL.u gi)
  cases agr
  have mL:=hL.uw k gi;obtain⟨n1,d1,b1,dg,eV⟩:=uD _ _ (dJ mL);obtain⟨n2,d2,b2,gN,eP⟩:=Kj k _ (hL.s gi);obtain⟨xc,n3,d3,b3,nT,jZ,gA⟩:=(BD.le eM.le (eM.same gc j9)).rd (dJ (show L.uF k<L.w+1 by omega));have iX:=hf _ mL;have yy:=LH _ mL;have jV:=hL.s1 k gi;have D4:=(l5.le eM.le).le (bE _ _);have ags:=(yM.le eM.le).le (bE _ _);have agt:=hru.le mz
  have fI:cell H2 ((⟨G.g,0,none⟩:Addr).add 5)=some (.slice As m cs):=by rw[←wy];exact lT.cell 5 _ rfl
  have pc:cell H2 ((⟨G.g,0,none⟩:Addr).add 7)=some (.slice (some ⟨gc,0,none⟩) (L.w+1) cc):=by rw[←bh];exact lT.cell 7 _ rfl
  refine aA (aj [0,1,5,17,18,19] rfl ?_);refine ao (aF (ag (ab 1 rfl (aQ ah rfl rfl rfl rfl rfl (agt) (by rw[Int.toNat_natCast];exact huu) (by omega) (by omega) fun _=> ?_))));refine ab 2 rfl (ae [0,1,5,6,7,17,18,19] ?_);refine eu .gD [0,1,2,3,4,5,6,7,8,9,10,11,12,13,14,15,16,17,18,19,20,21,22,23] follows (by kernel_rfl) ?_;refine ab 4 rfl (aU ah rfl rfl rfl (aS ah rfl rfl rfl (fI) (ab 1 rfl (ck (vs:=[.int .i64 n2,.int .i64 d2,.pointer b2]) ah rfl rfl rfl rfl ags rfl (by decide) (by rw[Int.toNat_natCast];exact eP) (by omega) (by omega) fun _=> ?_))));refine ab 2 rfl (ck (vs:=[.int .i64 n1,.int .i64 d1,.pointer b1]) ah rfl rfl rfl rfl D4 rfl (by decide) (by rw[Int.toNat_natCast];exact eV) (by omega) (by omega) fun _=> ?_);refine ab 2 rfl (aU ah rfl rfl rfl (aS ah rfl rfl rfl (pc) (ab 1 rfl (ck (vs:=[.int .i64 n3,.int .i64 d3,.pointer b3]) ah rfl rfl rfl rfl nT rfl (by decide) (by rw[Int.toNat_natCast];exact gA) (by omega) (by omega) fun _=> ?_))));refine bm rfl rfl (Fn.lB (eM.ne h.ne) (DP (N:=N) (dg.le eM.le) jZ iX yy (by omega))) (fun _ _ h=>by first | exact h.le | exact h.1) ?_
  rintro v4 H4 ⟨gj,amz,n4,d4,b4,rfl,cJ⟩;have r6:=eM.kept gj;have LI:=tv (f (L.uF k)) (T.c (L.uF k));refine bm rfl rfl (Fn.lB (r6.ne h.ne) (GA (N:=2*N+2) (gN.le r6.le) cJ (by omega) (by omega) (by omega))) (fun _ _ h=>by first | exact h.le | exact h.1) ?_;rintro v5 H5 ⟨mI,amA,n5,d5,b5,rfl,ep⟩;have se:=r6.kept mI;obtain⟨ti,ak,al⟩:=cI;refine cQ (.inr rfl) ah rfl rfl rfl (by omega) (by omega) (se.az) rfl (by show 0+m*3≤xs.length;omega) ak al (fun _=>rfl) rfl rfl rfl fun _=> ?_;refine aw (aj [0,1,5,17,18,19] rfl ?_);refine aB rfl (aG rfl rfl ⟨by omega,by omega⟩ (ab 1 rfl (aw ?_)));exact⟨k+1,aL xs (k*3) [.int .i64 n5,.int .i64 d5,.pointer b5],by omega,ar,se.set pd,by rw[cF _ (List.mem_cons_self ..),←y7 (a:=L.sF k*(f (L.uF k)-T.c (L.uF k))) (by rw[dJ gi,hl])];exact Qy (kU.mono fun vs a=>ib.up jh _ _ vs a (gj.le.trans mI.le)) (by rw[nz];exact gi) ep,by omega⟩
 ·
  have hb:m≤k:=by simpa using hb
  obtain rfl:k=m:=by omega
  have l6:=eM.done;refine aV (aj [5] rfl ?_);refine ag (vr 1 ?_)
  refine aE rfl rfl (Fn.LC (l6.1.ne h.ne) (W4 (l:=aK l k) ⟨some ⟨z,0,none⟩,k,xs,by rw[bg],by rw[bg];exact Nat.le_refl _,eM.rd,(XD kU).mono fun vs a=>jh _ _ vs a l6.2⟩ (fun q hq=>by
  obtain⟨j,hj,rfl⟩:=List.mem_map.1 hq;have:=rW j (List.mem_range.1 hj)
  omega) (by rw[bg];omega))) ?_
  rintro v9 H9 ⟨gQ,ix,r7⟩;refine ab 1 rfl (ae [4] ?_);refine aD ⟨.inr rfl,_,.tmp rfl (.nil),?_⟩;exact⟨l6.1.trans gQ,eM.hle.trans ix,by rw[←hl];exact r7⟩
end Go.au
namespace Go.au
open Go.Proofs Num Lp
def gK(T:aq)(f:Nat→Rat)(k j:Nat):Rat:=(if j=T.n then 0 else f j)-bo k (fun i=>f (T.B i)*T.A i j)
theorem agu(T:aq)(f:Nat→Rat)(k j:Nat):gK T f (k+1) j=gK T f k j-f (T.B k)*T.A k j:=by
 unfold gK;rw[fW];grind
theorem xg(f:Nat→Rat)(n:Nat):aK f (n+1)=aK f n ++ [f n]:=by
 unfold aK;rw[List.range_succ,List.map_append];rfl
theorem agv(f:Nat→Rat)(n:Nat):aK f n ++ [0]=aK (fun j=>if j=n then 0 else f j) (n+1):=by
 rw[xg,lz (f:=fun j=>if j=n then 0 else f j) (g:=f) (fun j hj=>by show (if j=n then 0 else f j)=f j;rw[if_neg (by omega)]),if_pos rfl]
theorem agw{α:Type}{P:List Value→α→Prop}{sz:Nat}{xs:List Value}{l:List α}(h:bC P sz xs l)(hp:0<sz∧∀vs a,P vs a→∀u,u∈vs→u.oneCell'=true):∀u,u∈xs→u.oneCell'=true:=fun u hu=>by
 obtain⟨i,hi⟩:=List.getElem?_of_mem hu
 have bI:=(List.getElem?_eq_some_iff.1 hi).1
 rw[h.len]at bI
 have he:i/sz<l.length:=Nat.div_lt_of_lt_mul (by rw[Nat.mul_comm];exact bI)
 have hq:=h.at_ (i/sz) _ (List.getElem?_eq_getElem he)
 refine hp.2 _ _ hq u ?_
 have:(gy xs (i/sz) sz)[i%sz]? = some u:=by
  unfold gy
  rw[List.getElem?_take,if_pos (Nat.mod_lt _ hp.1),List.getElem?_drop,Nat.div_add_mod'];exact hi
 exact List.mem_of_getElem? this
theorem agx{K:Heap}:0<3∧∀vs a,bR K vs a→∀u,u∈vs→u.oneCell'=true:=⟨by decide,fun vs a h u hu=>by
 obtain⟨n,d,b,rfl⟩:=h.cells
 simp only[List.mem_cons,List.not_mem_nil,or_false]at hu
 rcases hu with rfl | rfl | rfl <;> rfl⟩
def TG.eR(G:TG)(v:Value)(gc:Nat):TG:={G with cv:=v,cb:=[gc]}
theorem dC.agy{H:Heap}{G:TG}{L:TL}{T:aq}(h:dC H G L T){H3:Heap}{v:Value}{gc:Nat}{e:Ent}(j9:H gc=none)(hle:Heap.le (rem H G.gs) (rem (ins H3 G.g e) (G.eR v gc).gs))(hs:∀q,q∈G.gs→H3 q=H q)(h3:H3 gc≠none)(he:e=⟨(G.eR v gc).cells L.w L.u T.m,9,97,true⟩):
  dC (ins H3 G.g e) (G.eR v gc) L T:=by
 have aZ:∀q,q∈G.gs→q≠gc:=fun q hq e=>h.ne q hq (by rw[e];exact j9)
 have zb:G.g≠gc:=aZ _ G.rT
 have qD:∀q,q∈G.gs→q≠G.g→ins H3 G.g e q=H q:=fun q hq hn=>by rw[a6 _ _ hn];exact hs q hq
 refine⟨h.n,h.uw,by show ins H3 G.g e G.g=_;rw[bD,he],?_,h.iv,?_,fun i p hp=> ?_,?_,h.plus.le mJ hle,h.minus.le vk hle,h.eG.le mJ hle,h.j7.le jh hle,fun q hq=> ?_⟩
 ·have dT:=h.nd
  unfold TG.gs at dT⊢
  show (G.g::([gc]++(G.bb++G.rg.map (·.1)))).Nodup
  rw[List.nodup_cons,List.nodup_append]at dT
  have ll:∀q,q∈G.bb++G.rg.map (·.1)→q∈G.gs:=fun q hq=>List.mem_cons_of_mem _ (List.mem_append_right _ hq)
  rw[List.nodup_cons,List.nodup_append]
  refine⟨fun hm=> ?_,(by simp),dT.2.2.1,fun a ha b hb=> ?_⟩
  ·rcases List.mem_append.1 hm with hm | hm
   ·exact zb (List.mem_singleton.1 hm)
   ·exact dT.1 (List.mem_append_right _ hm)
  ·rw[List.mem_singleton]at ha
   rw[ha];exact fun e=>aZ b (ll b hb) e.symm
 ·obtain⟨xs,h1,h2⟩:=h.rows
  exact⟨xs,h1.le hle,h2⟩
 ·have yD:G.rg[i]? = some p:=hp
  exact(h.row i p yD).le hle (qD _ (TG.gJ yD) (fun e=>TG.Bz h.nd (.inr (.inr ⟨i,p,yD,rfl⟩)) e.symm))
 ·rcases h.basis with h1 | ⟨gb,cb,sz,h1,h2,h4⟩
  ·exact .inl h1
  ·have hm:gb∈G.bb:=by rw[h1];exact List.mem_singleton.2 rfl
   exact .inr ⟨gb,cb,sz,h1,h2,by rw[qD _ (TG.mK hm) (fun e=>TG.Bz h.nd (.inr (.inl hm)) e.symm)];exact h4⟩
 ·have:q=gc:=List.mem_singleton.1 hq
  rw[this,a6 _ _ (Ne.symm zb)];exact h3
theorem TG.agz{G:TG}{v:Value}{gc q:Nat}(h:q∈(G.eR v gc).gs):q=gc∨q∈G.gs:=by
 unfold TG.gs at h
 rcases List.mem_cons.1 h with h | h
 ·exact .inr (by rw[h];exact G.rT)
 ·rcases List.mem_append.1 h with h | h
  ·exact .inl (List.mem_singleton.1 h)
  ·exact .inr (List.mem_cons_of_mem _ (List.mem_append_right _ h))
theorem agA{H H3:Heap}{G:TG}{v:Value}{gc:Nat}{e:Ent}(j9:H gc=none)(hle:Heap.le (rem H G.gs) (rem H3 G.gs)):Heap.le (rem H G.gs) (rem (ins H3 G.g e) (G.eR v gc).gs):=fun q en hq=>by
 have hm:¬q∈G.gs:=fun hm=>by rw[rem_in hm]at hq;cases hq
 have Qz:q≠gc:=fun e=>by rw[bM hm,e,j9]at hq;cases hq
 obtain⟨e',h1,h2⟩:=hle q en hq
 refine⟨e',?_,h2⟩
 rw[bM (fun h=>by rcases TG.agz h with h | h;exact Qz h;exact hm h),a6 _ _ (fun e=>hm (by rw[e];exact G.rT))]
 rwa [bM hm]at h1
theorem XJ{H:Heap}{G:TG}{L:TL}{T:aq}{N:Nat}{v:Value}{f:Nat→Rat}(h:dC H G L T)(hv:aR bR 3 (rem H G.gs) v (aK f L.w))(hB:∀i,i<T.m→T.B i<L.w)(hN:(N:Int)≤549755813888)(hw:(L.w:Int)≤1000000)(hm:(T.m:Int)≤1000000)
 (hf:∀j,j<L.w→aO (f j)≤N) (hA:∀i,i<T.m→∀j,j≤L.w→aO (T.A i j)≤N) (hp:∀k,k≤T.m→∀j,j≤L.w→aO (gK T f k j)≤N):
 Fn Tryz.prog 49 #[.pointer (some ⟨G.g,0,none⟩),v] H (fun _ H'=>∃cv gc,H gc=none∧dC H' (G.eR cv gc) L {T with c:=gK T f T.m}∧iQ H' (G.eR cv gc) L {T with c:=gK T f T.m}∧Heap.le (rem H G.gs) (rem H' (G.eR cv gc).gs)):=by
 obtain⟨Av,cv0,xv,rfl,agB,l5,D9⟩:=hv
 rw[bg]at agB
 rw[bg]
 have XK:=D9.len
 rw[bg]at XK
 have Qm:=h.n;refine a7 (args:=[_,_]) Tryz.func49 rfl rfl Tryz.ntmps49 rfl rfl fun w0=> ?_;refine aj [0,1] rfl ?_;refine ag (ab 2 rfl (dR Tryz.underlying85 fg rfl rfl (lk _ 90 3) (l5.le (bE _ _)) (XK) (agw D9 agx) (by omega) (by omega) ?_));intro v1 H1 zl;rw[List.nil_append,Nat.zero_add]at zl;obtain⟨fE,lR⟩:=zl.rem (gs:=G.gs) h.ne (fun q _ e=>by cases e);have amB:=fE.own;refine aE rfl rfl (wR) ?_;rintro v2 H2 ⟨e2,rfl⟩;rw[e2];refine cW Tryz.underlying85 fg rfl rfl rfl rfl rfl rfl rfl ?_;intro gz vo;have QA:¬gz∈G.gs:=fun hm=>h.ne gz hm (by rw[←lR gz hm];exact vo)
 have oP:∀q,q∈G.gs→ins H1 gz (whole (cG [N3 0 1 none]) 90) q=H q:=fun q hq=>by rw[a6 _ _ (fun e=>QA (by rw[←e];exact hq))];exact lR q hq
 refine dR Tryz.underlying85 fg rfl rfl (zl.own.ins _ vo) (dD _ _ _ _ _ _) (rfl) (by decide) (by omega) (by omega) ?_;intro v3 H3 QB
 obtain⟨nt,LJ⟩:=QB.rem (gs:=G.gs) (fun q hq=>by rw[oP q hq];exact h.ne q hq) (fun q hq e=>by
  rcases zl.at_ with h9 | ⟨g9,h9,jI⟩
  ·rw[h9]at e;cases e
  ·rw[h9]at e;cases e;exact h.ne _ hq jI)
 obtain⟨gc,cc,rfl,XL,LK⟩:∃gc cc,v3 = .slice (some ⟨gc,0,none⟩) (L.w+1) cc∧H3 gc=some ⟨xv++cG [N3 0 1 none],cc*3,90,true⟩∧H gc=none:=by
  rcases QB.own.2 with h9 | ⟨g9,c9,h9,jI,_⟩
  ·omega
  ·
   refine⟨g9,c9,h9,jI,?_⟩
   rcases QB.at_ with iZ | ⟨g11,iZ,AI⟩
   ·
    rw[h9]at iZ
    rcases zl.at_ with nV | ⟨g13,nV,Ea⟩
    ·rw[nV]at iZ;cases iZ
    ·rw[nV]at iZ;cases iZ;exact Ea
   rw[h9]at iZ
   cases iZ
   have zm:=(AS AI).2
   cases hh:H g9 with
   | none=>rfl
   | some en=>(obtain⟨e',XM,_⟩:=zl.le g9 en hh;rw[zm]at XM;cases XM)
 have XN:∀q,q∈G.gs→H3 q=H q:=fun q hq=>(LJ q hq).trans (oP q hq);have im:Heap.le (rem H G.gs) (rem H3 G.gs):=(fE.le.trans (by rw[rM _ QA];exact Heap.bB _ (by rw[bM QA];exact vo))).trans nt.le
 have agC:H3 G.g=some ⟨G.cells L.w L.u T.m,9,97,true⟩:=by rw[XN _ G.rT];exact h.st
 refine ab 1 rfl (aU ah rfl rfl rfl ?_);obtain⟨ti,ak,al⟩:=FX;refine lW (g:=G.g) (o:=7) (.inl rfl) rfl agC rfl (by show 7+1≤9;omega) ak al rfl rfl rfl rfl ?_;have kH:=agA (v:= .slice (some ⟨gc,0,none⟩) (L.w+1) cc) (e:={(⟨G.cells L.w L.u T.m,9,97,true⟩:Ent)with xs:=aL (G.cells L.w L.u T.m) 7 [.slice (some ⟨gc,0,none⟩) (L.w+1) cc]}) LK im;have h4:=h.agy (v:= .slice (some ⟨gc,0,none⟩) (L.w+1) cc) LK kH XN (by rw[XL];simp) rfl;have zb:gc≠G.g:=fun e=>h.ne _ G.rT (by rw[←e];exact LK)
 have XO:ins H3 G.g {(⟨G.cells L.w L.u T.m,9,97,true⟩:Ent)with xs:=aL (G.cells L.w L.u T.m) 7 [.slice (some ⟨gc,0,none⟩) (L.w+1) cc]} gc=some ⟨xv++cG [N3 0 1 none],cc*3,90,true⟩:=by rw[a6 _ _ zb];exact XL
 generalize ins H3 G.g {(⟨G.cells L.w L.u T.m,9,97,true⟩:Ent)with xs:=aL (G.cells L.w L.u T.m) 7 [.slice (some ⟨gc,0,none⟩) (L.w+1) cc]}=H4 at kH h4 XO
 refine ae [0,1] ?_
 have XP:bC (bR (rem H4 (G.eR (.slice (some ⟨gc,0,none⟩) (L.w+1) cc) gc).gs)) 3 (xv++cG [N3 0 1 none]) (aK (gK T f 0) (L.w+1)):=by
  rw[lz (f:=gK T f 0) (g:=fun j=>if j=L.w then 0 else f j) (fun j _=>by unfold gK;rw[Bf,Qm];grind),←agv];exact(D9.mono fun vs a=>jh _ _ vs a kH).append (iP (wQ _ (n:=0) (by decide) (by decide)) rfl)
 obtain⟨G',vp⟩:∃G',G'=G.eR (.slice (some ⟨gc,0,none⟩) (L.w+1) cc) gc:=⟨_,rfl⟩;rw[←vp]at kH h4 XP
 have BH:G'.g=G.g:=by rw[vp];rfl
 have oQ:iQ H4 G' L {T with c:=gK T f 0}:=⟨gc,cc,by rw[vp];rfl,by rw[vp];rfl,_,_,XO,XP⟩;have h4':dC H4 G' L {T with c:=gK T f 0}:=h4.congr rfl rfl (fun _ _ _ _=>rfl) (fun _ _=>rfl);obtain⟨Ab,cb,dh,_⟩:=h4.self.bv
 have zi:cell H4 ((⟨G.g,0,none⟩:Addr).add 8)=some (.slice Ab T.m cb):=by rw[←dh,←BH];exact h4.cell rfl
 refine ag (ab 2 rfl (aU ah rfl rfl rfl (aS ah rfl rfl rfl (zi) (ab 2 rfl (ae [0,1,17,18,19] ?_)))));refine aF (gG (fun(k:Nat)=>T.m-k) (fun(k:Nat)=>put (put (put (put (put (emp) 0 (.val (.pointer (some ⟨G.g,0,none⟩)))) 1 (.val (.slice Av L.w cv0))) 17 (.val (.slice Ab T.m cb))) 18 (.val (.int .i64 (T.m:Int)))) 19 (.val (.int .i64 (k:Int)))) (fun(k:Nat) H'=>dC H' G' L {T with c:=gK T f k}∧iQ H' G' L {T with c:=gK T f k}∧Heap.le (rem H G.gs) (rem H' G'.gs)∧k≤T.m) 0 (⟨h4',oQ,kH,Nat.zero_le _⟩) ar ?_);rintro k H5 ⟨h5,mM,iO,mI⟩;obtain⟨A2,c2,GX,Gl⟩:=h5.self.bv;rw[dh]at GX
 obtain⟨rfl,-,rfl⟩:Ab=A2∧T.m=T.m∧cb=c2:=by simpa using GX
 refine ag (ab 1 rfl (ae [0,1,17,18,19,20] ?_));refine ao (aC rfl (fun hb=> ?_) (fun hb=> ?_))
 ·
  have lD:k<T.m:=by simpa using hb
  have XQ:=hB k lD;obtain⟨pk,qI⟩:=h5.get (i:=k) lD;obtain⟨vs0,_,jA,je⟩:=D9.get (dJ XQ);obtain⟨n1,d1,b1,rfl⟩:=jA.cells;obtain⟨gc',cc',amC,amD,amE⟩:=id mM
  have pc:cell H5 ((⟨G.g,0,none⟩:Addr).add 7)=some G'.cv:=by rw[←BH];exact h5.cell rfl
  refine aA (aj [0,1,17,18,19] rfl ?_);refine ao (aF (ag (ab 1 rfl (aQ ah rfl rfl rfl rfl rfl (Gl) (by rw[Int.toNat_natCast];exact gI (B:=T.B) lD) (by omega) (by omega) fun _=> ?_))));refine ab 2 rfl (ae [0,1,4,5,17,18,19] ?_);refine eu .uB [0,1,2,3,4,5,6,7,8,9,10] follows (by kernel_rfl) ?_;refine ab 3 rfl (aU ah rfl rfl rfl (aS ah rfl rfl rfl (pc) (ab 3 rfl (ck (vs:=[.int .i64 n1,.int .i64 d1,.pointer b1]) ah rfl rfl rfl rfl ((l5.le iO).le (bE _ _)) rfl (by decide) (by rw[Int.toNat_natCast];exact je) (by omega) (by omega) fun _=> ?_))));refine Wn rfl rfl (by rw[←BH];exact Xh (N:=N) h5 mM qI (jA.le iO) hN hw (hf _ XQ) (fun j hj=>hp k (by omega) j hj) (fun j hj=>hA k lD j hj)) ?_;rintro v6 H6 ⟨h6,qJ,rU⟩;refine aw (aj [0,1,17,18,19] rfl ?_);refine aB rfl (aG rfl rfl ⟨by omega,by omega⟩ (ab 1 rfl (aw ?_)));exact⟨k+1,by omega,ar,h6.congr rfl rfl (fun _ _ _ _=>rfl) (fun _ _=>rfl),qJ.congr (fun j _=>agu T f k j),iO.trans rU,by omega⟩
 ·
  have hb:T.m≤k:=by simpa using hb
  obtain rfl:k=T.m:=by omega
  refine aV ?_;refine⟨.inl rfl,_,.nil,?_⟩;exact⟨_,gc,LK,by rw[←vp];exact h5,by rw[←vp];exact mM,by rw[←vp];exact iO⟩
end Go.au
namespace Go.au
open Go
section
variable {P:Program} {n:Nat} {tb:Tb} {all:Array Oper} {s:St} {H:Heap} {md:Mode} {K:St→Heap→Prop} {r:List Oper} {dst:Option Nat} {ty:TypeId} {pos:String} {after:Array Edge} {gd:Option (Nat×Bool)} {kc:Addr→Option Value}
theorem Eb{op:Op}(v:Value)(hm:ru op=false)(hc:(Mode.cO kc).fM H)(hg:b8 all s gd=some true)(nb:js s dst=true)
  (h:∀a w,gC n s a→(∀ad u,kc ad=some u→w.cell? ad=some u)→(execOp a.eval ⟨dst,op,ty,pos,after,gd⟩).run P w = .ok (.value v) w) (k:aP P n all (.cO kc) r (bn s dst (.val v)) H K):aP P n all (.cO kc) (⟨dst,op,ty,pos,after,gd⟩::r) s H K:=
 .mq v rfl hm nb hc (fun a w ha hd=> .inl ⟨jT ha (lj (o:=⟨dst,op,ty,pos,after,gd⟩) hg),h a w ha hd⟩) k
theorem eN{x:Operand}{v:Value}(hc:(Mode.cO kc).fM H)(hx:ev s x=some v)(hk:aP P n all (.cO kc) r (bn s dst (.val v)) H K)(hg:b8 all s gd=some true:=by rfl)(nb:js s dst=true:=by rfl):aP P n all (.cO kc) (⟨dst,.move x,ty,pos,after,gd⟩::r) s H K:=
 Eb v rfl hc hg nb (fun a w ha _=>by simp[execOp,bS ha hx]) hk
theorem l7{x:Operand}{ad:Addr}(hc:(Mode.cO kc).fM H)(hx:ev s x=some (.pointer (some ad)))(hk:aP P n all (.cO kc) r (bn s dst (.val (.pointer (some ad)))) H K)(hg:b8 all s gd=some true:=by rfl)(nb:js s dst=true:=by rfl):aP P n all (.cO kc) (⟨dst,.nilCheck x,ty,pos,after,gd⟩::r) s H K:=
 Eb _ rfl hc hg nb (fun a w ha _=>by simp[execOp,bS ha hx]) hk
theorem l8{t:TypeId}{x:Operand}{f:Nat}{ad:Addr}{m o z:Nat}{ps:List (Nat×Nat)}(hc:(Mode.cO kc).fM H)(di:jU P tb)(ht:tb[t]? = some (.st m ps))(hf:ps[f]? = some (o,z))(hx:ev s x=some (.pointer (some ad)))
  (hk:aP P n all (.cO kc) r (bn s dst (.val (.pointer (some (ad.add o))))) H K) (hg:b8 all s gd=some true:=by rfl) (nb:js s dst=true:=by rfl):aP P n all (.cO kc) (⟨dst,.fieldAddr t x f,ty,pos,after,gd⟩::r) s H K:=
 Eb _ rfl hc hg nb (fun a w ha _=>by
  obtain⟨fs,ii,hu,h2,h3,_,h4⟩:=di t _ ht
  obtain⟨fd,jj,h5,h6,h7,h9,jI⟩:=h4 f _ hf
  have h8:jj.size≠0:=by rw[h9];exact jI
  simp only at h6
  simp[execOp,bS ha hx,Instr.fieldAt,run_underlying hu,h5,Instr.sureAddr,Kc h7 h8,h6]) hk
theorem ka{t:TypeId}{x:Operand}{ad:Addr}{ti:Ti}{v:Value}(hc:(Mode.cO kc).fM H)(di:jU P tb)(ht:tb[t]? = some ti)(h1:yv ti=true)(hx:ev s x=some (.pointer (some ad)))(hv:kc ad=some v)
  (hk:aP P n all (.cO kc) r (bn s dst (.val v)) H K) (hg:b8 all s gd=some true:=by rfl) (nb:js s dst=true:=by rfl):aP P n all (.cO kc) (⟨dst,.load t x,ty,pos,after,gd⟩::r) s H K:=
 Eb _ rfl hc hg nb (fun a w ha hd=>by simp[execOp,bS ha hx,Instr.loadAt,Instr.sureAddr,OF (di t _ ht) h1 (hd ad v hv)]) hk
theorem Ec{f:Operand}{kO:FuncId}{cap args:List Value}{xs:List Operand}{ts:Array TypeId}{bF:Value→Heap→Prop}(hf:ev s f=some (.func (.func kO) #[] cap.toArray))(hx:qp s xs=some args)
  (h:Fn P kO (args++cap).toArray H bF) (hm:∀v H',bF v H'→(Mode.cO kc).fM H') (hk:∀v H',bF v H'→aP P n all (.cO kc) r (bn s dst (.val v)) H' K) (hg:b8 all s gd=some true:=by rfl) (nb:js s dst=true:=by rfl):aP P n all (.cO kc) (⟨dst,.call ⟨.value f,xs.toArray,ts⟩,ty,pos,after,gd⟩::r) s H K:=
 .mY bF rfl (.inl FL) nb (FK (cap:=cap) hf hx hg h) (.inr hm) fun v H' hp _=>hk v H' hp
theorem Ed{t e bytes:Nat}{x:Operand}{z v:Value}(ht:P.underlying t=some (.slice e))(he:fU P e 1 z bytes)(hx:ev s x=some v)(hv:v.cells = #[v])
  (hk:∀g,H g=none→aP P n all (.cO kc) r (bn s dst (.val (.slice (some ⟨g,0,none⟩) 1 1))) (ins H g (whole [v] e)) K) (hg:b8 all s gd=some true:=by rfl) (nb:js s dst=true:=by rfl):
  aP P n all (.cO kc) (⟨dst,.buildSlice t 1 #[(0,x)],ty,pos,after,gd⟩::r) s H K:=
 .ou (fun g=> .slice (some ⟨g,0,none⟩) 1 1) [v] e rfl rfl nb (fun a w ha=>by
  refine⟨jT ha (lj (o:=⟨dst,.buildSlice t 1 #[(0,x)],ty,pos,after,gd⟩) hg),?_⟩
  obtain⟨i,hi,hz,cK,_,qt,_⟩:=he
  have lO:v.cells.size=1:=by rw[hv];rfl
  have AH:Instr.fill (fun k=>some (k*i.size,i.size)) (madeCells z.cells (1*i.size)) [(0,v)]=some #[v]:=by
   have h1:=Vx (sz:=1) [v] 0 [] (madeCells z.cells 1).toList (fun u hu=>by rw[List.mem_singleton]at hu;rw[hu];exact lO) rfl (by simp[size_madeCells])
   simp only[List.nil_append,Array.toArray_toList,List.length_singleton]at h1
   have e1:cG [v] = [v]:=by simp[cG,hv]
   rw[e1]at h1
   rw[cK]
   simpa [List.range']using h1
  have:=Vy (P:=P) (w:=w) (t:=t) (e:=e) (len:=1) (i:=i) (z:=z) (parts:= #[(0,v)]) (cells:= #[v]) ht hi hz (by rw[cK];decide) (by rw[cK];decide) AH
  simp only[execOp,List.map_toArray,List.map_cons,List.map_nil,bS ha hx,Sem.run_bind,this,Result.andThen_ok,Sem.run_pure]) fun g hg _=>hk g hg
theorem Ee{t e sz bytes:Nat}{x y:Operand}{z v:Value}{m k c:Nat}{A:Option Addr}{xs news:List Value}(ht:P.underlying t=some (.slice e))(he:fU P e sz z bytes)(hx:ev s x=some v)(hy:ev s y=some (.slice A k c))(ho:bW H v e sz m xs)
  (hr:Rd H A news) (hl:news.length=k*sz) (h1:∀u∈news,u.oneCell'=true) (hb:(m+k)*bytes≤140737488355328) (qq:m+k≤9223372036854775807) (hc:(Mode.cO kc).fM H)
  (hk:∀v' H',App H v e sz (m+k) (xs++news) v' H'→aP P n all (.cO kc) r (bn s dst (.val v')) H' K) (hg:b8 all s gd=some true:=by rfl) (nb:js s dst=true:=by rfl):aP P n all (.cO kc) (⟨dst,.call ⟨.builtin .append,#[x,y],#[t,t]⟩,ty,pos,after,gd⟩::r) s H K:=
 .mY (fun v' H'=>App H v e sz (m+k) (xs++news) v' H') rfl (.inl (by simp[kd,JX])) nb (fun a w ha hd=>by
  refine⟨jT ha (lj (o:=⟨dst,.call ⟨.builtin .append,#[x,y],#[t,t]⟩,ty,pos,after,gd⟩) hg),?_⟩
  obtain⟨v',w',H',h2,h3,h4,h5⟩:=Vv (P:=P) (c:=c) hd ht he ho hr hl h1 hb qq ty
  have hex:(execOp a.eval ⟨dst,.call ⟨.builtin .append,#[x,y],#[t,t]⟩,ty,pos,after,gd⟩).run P w = .ok (.value v') w':=by
   simp[execOp,resolve,invoke,builtin,bS ha hx,bS ha hy,h2]
  unfold lM
  rw[hex]
  exact⟨H',h3,h4,h5⟩) (.inr fun v' H' ha ad u hu=>cN ha.le (hc ad u hu)) fun v' H' ha _=>hk v' H' ha
theorem agD{t:TypeId}{x y:Operand}{g o sz:Nat}{ent:Ent}{v:Value}{vs:List Value}{ii:TypeInfo}(hx:ev s x=some (.pointer (some ⟨g,o,none⟩)))(hg:H g=some ent)(cC:ent.own=true)(ll:o+sz≤ent.xs.length)
  (wi:P.info? t=some ii) (cK:ii.size=sz) (hy:ev s y=some v) (hv:v.cells=vs.toArray) (iC:vs.length=sz) (h1:vs.all yB=true) (ju:b8 all s gd=some true):
  EV P n all ⟨none,.store t x y,ty,pos,after,gd⟩ s H (fun _ H'=>H'=ins H g {ent with xs:=aL ent.xs o vs}):=fun a w ha hd=>by
 refine⟨jT ha (lj (o:=⟨none,.store t x y,ty,pos,after,gd⟩) ju),?_⟩
 obtain⟨ob,h2,cur,fz,rfl,h3,h4,h5⟩:=hd g ent hg
 have oC:=h5 cC
 subst oC
 have FO:cur=cur.toList.toArray:=by simp
 have hlen:ent.xs.length≤cur.toList.length:=by
  rcases Nat.eq_zero_or_pos ent.xs.length with h | h
  ·omega
  ·have hx:=h4 (ent.xs.length-1) _ (List.getElem?_eq_getElem (by omega))
   have:=(Array.getElem?_eq_some_iff.1 hx).1
   simp;omega
 rw[FO]at h2
 obtain⟨w',h6,h7,h8,h9,jI,iZ,AI⟩:=Ke (P:=P) vs cur.toList w o 0 h2 (fun u hu=>List.all_eq_true.1 h1 u hu) (by omega)
 have hex:(execOp a.eval ⟨none,.store t x y,ty,pos,after,gd⟩).run P w = .ok .skip w':=by
  simp[execOp,bS ha hx,bS ha hy,Instr.storeAt,Instr.sureAddr,storeVar,sizeOf,typeInfo,wi,cK,hv,iC,h6]
 unfold lM
 rw[hex]
 refine⟨_,rfl,C9 (o:= .cells (aL cur.toList (o+0) vs).toArray ent.elem (0,0)) hd h7 h8 h9 (by omega) (fun q _ hq=>iZ q hq) AI ⟨_,(0,0),rfl,?_,?_,fun _=>rfl⟩ (.inl ⟨_,hg,cC,cC,rfl,rfl⟩)⟩
 ·simp[FI,h3]
 ·intro q u hq
  have:=Wo vs ent.xs cur.toList o (fun i w hw=>by have:=h4 i w hw;simpa using this) (by omega) q u hq
  simpa using this
theorem BI{t:TypeId}{x y:Operand}{g o sz:Nat}{ent:Ent}{v:Value}{vs:List Value}{ii:TypeInfo}(hx:ev s x=some (.pointer (some ⟨g,o,none⟩)))(hg:H g=some ent)(cC:ent.own=true)(ll:o+sz≤ent.xs.length)
  (wi:P.info? t=some ii) (cK:ii.size=sz) (hy:ev s y=some v) (hv:v.cells=vs.toArray) (iC:vs.length=sz) (h1:vs.all yB=true)
  (hk:aP P n all (.cO kc) r s (ins H g {ent with xs:=aL ent.xs o vs}) K) (ju:b8 all s gd=some true:=by rfl):aP P n all (.cO kc) (⟨none,.store t x y,ty,pos,after,gd⟩::r) s H K:=
 .mY _ rfl (.inr rfl) rfl (agD hx hg cC ll wi cK hy hv iC h1 ju) (.inl rfl) fun _ H' hH _=>by rw[hH];exact hk
theorem agE{f:FuncId}{xs:List Operand}{cap:List Value}(hx:qp s xs=some cap)(hk:aP P n all md r (bn s dst (.val (.func (.func f) #[] cap.toArray))) H K)(hg:b8 all s gd=some true:=by rfl)(nb:md.nb s dst=true:=by rfl):
  aP P n all md (⟨dst,.makeFunc (.func f) #[] xs.toArray,ty,pos,after,gd⟩::r) s H K:=
 iY _ rfl hg nb (fun a w ha _=>by simp[execOp,OJ ha xs cap hx,Instr.makeFunc]) hk
end
end Go.au
namespace Go.au
open Go.Proofs Num Lp
def ke(L:TL)(a:Nat→Rat)(sg:Rat):Nat→Nat→Rat
 | 0=>fun _=>0
 | k+1=>if 0≤L.mZ k then bV (bV (ke L a sg k) (L.pF k) (a k*sg)) (L.mZ k).toNat (-(a k*sg))else bV (ke L a sg k) (L.pF k) (a k*sg)
def sh(f:Nat→Rat)(rel slack:Int)(sg:Rat):Nat→Rat:=if rel=1 then bV f slack.toNat sg else if rel=3 then bV f slack.toNat (-sg)else f
def LL(L:TL)(n:Nat)(a:Nat→Rat)(b:Rat)(rel slack:Int)(unit:Nat)(sg:Rat):Nat→Rat:=
 bV (bV (sh (ke L a sg n) rel slack sg) unit 1) L.w (b*sg)
def fu(N:Nat)(H:Heap)(vs:List Value)(r:List Rat×Int×Rat):Prop:=
 ∃c f u w,vs = [c,.int .i64 r.2.1,.bool f,u,w]∧aR (bN N) 3 H c r.1∧cn H (.agg #[.bool f,u,w]) r.2.2 N
theorem gm(N:Nat):Up (fu N):=fun H H' vs r hl ⟨c,f,u,w,h1,h2,h3⟩=>⟨c,f,u,w,h1,h2.le (dI N) hl,h3.le hl⟩
theorem fu.cells{N:Nat}{H:Heap}{vs:List Value}{r:List Rat×Int×Rat}(h:fu N H vs r):∃A c k f A1 m1 c1 A2 m2 c2,vs = [.slice A k c,.int .i64 r.2.1,.bool f,.slice A1 m1 c1,.slice A2 m2 c2]∧k=r.1.length:=by
 obtain⟨c,f,u,w,h1,⟨A,cc,xs,rfl,_⟩,h3⟩:=h
 obtain⟨f',u',w',l1,l2,e,⟨A1,c1,rfl,_,_⟩,⟨A2,c2,rfl,_,_⟩,_⟩:=h3
 have:=y8 (vs:=[.bool f,u,w]) e
 simp only[List.cons.injEq,Value.bool.injEq,and_true]at this
 obtain⟨_,rfl,rfl⟩:=this
 exact⟨A,cc,_,f,A1,_,c1,A2,_,c2,h1,rfl⟩
theorem Ef{H:Heap}{gv g w:Nat}{ts:List Value}(hv:cell H ⟨gv,0,none⟩=some (.pointer (some ⟨g,0,none⟩)))(hg:H g=some ⟨.int .i64 (w:Int)::ts,9,97,true⟩)(aZ:gv≠g)(hw:(w:Int)≤1000000):
 Fn Tryz.prog 122 #[.pointer (some ⟨gv,0,none⟩)] H (fun v H'=>v = .int .i64 (w:Int)∧H'=ins H g ⟨.int .i64 ((w+1:Nat):Int)::ts,9,97,true⟩):=by
 have mE:cell H ((⟨g,0,none⟩:Addr))=some (.int .i64 (w:Int)):=by simp[cell,hg]
 have Dc:∀e,cell (ins H g e) ⟨gv,0,none⟩=some (.pointer (some ⟨g,0,none⟩)):=fun e=>by
  simp only[cell,a6 _ _ aZ]at hv⊢;exact hv
 refine a7 (args:=[_]) Tryz.func122 rfl rfl Tryz.ntmps122 rfl rfl fun w0=> ?_;refine aj [0] rfl ?_;refine ag (ab 1 rfl (ae [0] ?_));refine ag (aS ah rfl rfl rfl (hv) (ab 1 rfl (aU ah rfl rfl rfl (aS ah rfl rfl rfl (mE) (aG rfl rfl ⟨by omega,by omega⟩ (ab 1 rfl (aU ah rfl rfl rfl ?_)))))));obtain⟨ti,ak,al⟩:=pM;refine lW (g:=g) (o:=0) (.inl rfl) rfl hg rfl (by show 0+1≤(Value.int .i64 (w:Int)::ts).length;simp) ak al rfl rfl rfl rfl ?_;rw[show ({(⟨.int .i64 (w:Int)::ts,9,97,true⟩:Ent)with xs:=aL (.int .i64 (w:Int)::ts) 0 [.int .i64 ((w:Int)+1)]}:Ent)=⟨.int .i64 ((w+1:Nat):Int)::ts,9,97,true⟩from rfl];refine ae [0] ?_;refine ag (aS ah rfl rfl rfl (Dc _) (ab 1 rfl (aU ah rfl rfl rfl (aS ah rfl rfl rfl (show cell (ins H g ⟨.int .i64 ((w+1:Nat):Int)::ts,9,97,true⟩) ⟨g,0,none⟩=some (.int .i64 ((w+1:Nat):Int))from by simp[cell,ins]) ?_))));refine cV rfl rfl ⟨by omega,by omega⟩ (ab 1 rfl (ae [1] ?_));refine aD ⟨.inr rfl,_,.tmp rfl (.nil),?_⟩;refine⟨?_,rfl⟩
 show Value.int .i64 (((w+1:Nat):Int)-1)=_
 rw[show (((w+1:Nat):Int)-1)=(w:Int) by omega]
end Go.au
namespace Go.au
open Go.Proofs Num
theorem BJ{H:Heap}{u:Value}{l:List Nat}(hu:jx H u l)(bI:Lt l)(hm:(l.length:Int)≤17592186044416):
 Fn Tryz.prog 151 #[u] H (nr H (val l)):=by
 obtain⟨A,c,rfl,hc,hr⟩:=hu;refine a7 (args:=[_]) Tryz.func151 rfl rfl Tryz.ntmps151 rfl rfl fun w0=> ?_;refine aj [0] rfl ?_;refine ag (ab 1 rfl (ae [0] ?_));refine ag (ab 3 rfl (ae [0,3] ?_));refine ao (aF (gG (fun(k:Nat)=>k) (fun(k:Nat)=>put (put (emp) 0 (.val (.slice A l.length c))) 3 (.val (.int .i64 (k:Int)))) (fun(k:Nat) H'=>H'=H∧k≤l.length∧val (l.take k)=val l) l.length (⟨rfl,Nat.le_refl _,by simp⟩) ar ?_));rintro k H1 ⟨rfl,hk,hv⟩;refine ao ?_
 rcases Nat.eq_zero_or_pos k with KA | KA
 ·
  skip
  refine ag (ab 1 rfl (aI false rfl rfl (jw (by omega)) (ab 8 rfl (ae [0,3,15] ?_))));refine dU rfl (aV (aj [0,3] rfl ?_));refine ag (ab 2 rfl (tk ah rfl rfl (.inl ⟨rfl,rfl⟩) (.inr ⟨_,_,rfl,rfl⟩) (by omega) (by omega) ?_));rw[AM];refine dR Tryz.underlying29 eD rfl rfl (yI _) (hr.take k) (by simp[AL];omega) (fun u hu=>oH _ u (List.mem_of_mem_take hu)) (by simp;omega) (by simp;omega) ?_;intro v1 H2 ha;rw[←FZ,Nat.sub_zero]at ha;refine ab 1 rfl (ae [2] ?_);refine aD ⟨.inr rfl,_,.tmp rfl (.nil),?_⟩;have e:=Kx bI hk hv (.inl KA);have h1:=(App.pP (a:=[]) (b:=l.take k) ha rfl (by simp;omega)).lim;rw[List.nil_append,←e]at h1;exact⟨ha.le,h1⟩
 ·
  obtain⟨x,hx⟩:∃x,l[k-1]? = some x:=⟨_,List.getElem?_eq_getElem (by omega)⟩;refine ag (ab 1 rfl (aI true rfl rfl (nn (by omega)) (ab 3 rfl (cV rfl rfl ⟨by omega,by omega⟩ (aQ ah rfl rfl rfl rfl rfl (hr) (dr (by rw[show ((k:Int)-1).toNat=k-1 by omega];exact hx)) (by omega) (by omega) fun _=> ?_)))));refine ab 2 rfl (ae [0,3,15] ?_);refine aC rfl (fun hb=> ?_) (fun hb=> ?_)
  ·
   have hb:x=0:=by simpa using hb
   refine aA (aj [0,3] rfl ?_);refine aF (aB rfl (ab 1 rfl (cV rfl rfl ⟨by omega,by omega⟩ (ab 1 rfl (aw ?_)))));exact⟨k-1,by omega,ar,rfl,by omega,by have:=kP hx;rw[show k-1+1=k by omega,hb,Nat.mul_zero,Nat.add_zero]at this;rw[←this];exact hv⟩
  have hb:x≠0:=by simpa using hb
  refine aV (aj [0,3] rfl ?_);refine ag (ab 2 rfl (tk ah rfl rfl (.inl ⟨rfl,rfl⟩) (.inr ⟨_,_,rfl,rfl⟩) (by omega) (by omega) ?_));rw[AM];refine dR Tryz.underlying29 eD rfl rfl (yI _) (hr.take k) (by simp[AL];omega) (fun u hu=>oH _ u (List.mem_of_mem_take hu)) (by simp;omega) (by simp;omega) ?_;intro v1 H2 ha;rw[←FZ,Nat.sub_zero]at ha;refine ab 1 rfl (ae [2] ?_);refine aD ⟨.inr rfl,_,.tmp rfl (.nil),?_⟩;have e:=Kx bI hk hv (.inr ⟨x,hx,hb⟩);have h1:=(App.pP (a:=[]) (b:=l.take k) ha rfl (by simp;omega)).lim;rw[List.nil_append,←e]at h1;exact⟨ha.le,h1⟩
theorem XR{H:Heap}{u:Value}{l:List Nat}(hu:jx H u l)(AO:∀x,x∈l→x<4294967296)(hm:(l.length:Int)≤8796093022208):
 Fn Tryz.prog 148 #[u] H (nr H (val l)):=by
 obtain⟨A,c,rfl,hc,hr⟩:=hu;refine a7 (args:=[_]) Tryz.func148 rfl rfl Tryz.ntmps148 rfl rfl fun w0=> ?_;refine aj [0] rfl ?_;refine ag (ab 1 rfl (ae [0] ?_));refine ag (ab 1 rfl (ae [0,3] ?_));refine ag (ab 1 rfl (ae [0,3,4] ?_));refine ao (ag (ab 1 rfl (ae [0,3,4,5] ?_)));refine aF (oD (fun(k:Nat)(v:Value)(o:List Nat)(cr:Nat)=>l.length-k) (fun(k:Nat)(v:Value)(o:List Nat)(cr:Nat)=>put (put (put (put (emp) 0 (.val (.slice A l.length c))) 3 (.val (v))) 4 (.val (.int .u64 (cr:Int)))) 5 (.val (.int .i64 (k:Int)))) (fun(k:Nat)(v:Value)(o:List Nat)(cr:Nat) H'=>Heap.le H H'∧kQ H' v o∧k≤l.length∧o.length=k∧Lt o∧cr≤4∧val o+B^k*cr=val (l.take k)) 0 _ [] 0 (⟨.refl _,yI _,by omega,rfl,Lt.nil,by omega,by simp[val]⟩) ar ?_);rintro k v o cr H1 ⟨hle,cC,hk,dA,ee,jL,hv⟩;obtain⟨Ao,co,rfl⟩:=bW.form cC;refine ao (ag (ab 4 rfl (ae [0,3,4,5,9] ?_)));refine aC rfl (fun hb=> ?_) (fun hb=> ?_)
 ·
  have hb:k<l.length:=by simpa using hb
  obtain⟨p,hp⟩:∃p,l[k]? = some p:=⟨_,List.getElem?_eq_getElem hb⟩;have aep:=AO p (List.mem_of_getElem? hp);refine aA (aj [0,3,4,5] rfl ?_);refine ao (aF (ag (ab 3 rfl (aQ ah rfl rfl rfl rfl rfl (hr.le hle) (dr hp) (by omega) (by omega) fun _=>(dd ah rfl rfl rfl ⟨by omega,by omega⟩ (aG rfl rfl ⟨by omega,by omega⟩ (ab 1 rfl (ae [0,3,4,5] ?_))))))));refine ag (ab 2 rfl (m7 rfl rfl (by omega) (by omega) (dd ah rfl rfl rfl ⟨by omega,by omega⟩ (cW Tryz.underlying29 eD rfl rfl rfl rfl rfl rfl rfl ?_))));intro gb bx;refine dR Tryz.underlying29 eD rfl rfl (cC.ins _ bx) (rI (y:=(cr+p)%1000000000) rfl) (rfl) (oH _) (by omega) (by omega) ?_;intro v1 H2 ha;refine ab 1 rfl (ae [0,3,4,5] ?_);refine aB rfl (ab 1 rfl (lP rfl rfl (by omega) (by omega) ⟨by omega,by omega⟩ (ab 1 rfl (aw (aj [0,3,4,5] rfl ?_)))));refine aB rfl (ab 1 rfl (aG rfl rfl ⟨by omega,by omega⟩ (ab 1 rfl (aw ?_))));have dO:=Dg (s:=cr+p) (u:=val (l.take (k+1))) dA hv rfl (kP hp);exact⟨k+1,v1,o ++ [(cr+p)%B],(cr+p)/B,by omega,ar,(hle.trans (Heap.bB _ bx)).trans ha.le,ha.pP rfl rfl,by omega,by simp[dA],ee.snoc (Nat.mod_lt _ nh),by rw[cj];omega,dO⟩
 ·
  have hb:l.length≤k:=by simpa using hb
  obtain rfl:k=l.length:=by omega
  rw[List.take_length]at hv;refine aV (aj [3,4] rfl ?_);refine AJ (fun(v:Value)(o:List Nat)=>put (emp) 3 (.val (v))) (fun(v:Value)(o:List Nat) H'=>Heap.le H H'∧kQ H' v o∧o.length≤l.length+1∧Lt o∧val o=val l) ?_ ?_
  ·
   refine ag (ab 2 rfl (ae [3,4,28] ?_));refine aC rfl (fun hb=> ?_) (fun hb=> ?_)
   ·
    have hb:0<cr:=by simpa using hb
    refine aB rfl (ab 2 rfl (dd ah rfl rfl rfl ⟨by omega,by omega⟩ (cW Tryz.underlying29 eD rfl rfl rfl rfl rfl rfl rfl ?_)));intro gb bx;refine dR Tryz.underlying29 eD rfl rfl (cC.ins _ bx) (rI (y:=cr) rfl) (rfl) (oH _) (by omega) (by omega) ?_;intro v1 H2 ha;refine ab 1 rfl (aw ?_);exact⟨v1,o ++ [cr],(by repeat (first | exact iL _ | refine du rfl ?_ | refine du (ja (by omega)) ?_)),(hle.trans (Heap.bB _ bx)).trans ha.le,ha.pP rfl rfl,by simp;omega,ee.snoc (by rw[cj];omega),by rw[rF,dA];exact hv⟩
   have hb:cr=0:=by simpa using hb
   refine aA ?_;exact⟨_,o,(by repeat (first | exact iL _ | refine du rfl ?_ | refine du (ja (by omega)) ?_)),hle,cC,by omega,ee,by rw[hb,Nat.mul_zero]at hv;omega⟩
  rintro v o H3 ⟨hle,cC,dA,ee,hv⟩;refine ag (ab 1 rfl (aE rfl rfl (BJ cC.lim ee (by omega)) ?_));intro v1 H4 hp;refine ab 1 rfl (ae [2] ?_);refine aD ⟨.inr rfl,_,.tmp rfl (.nil),?_⟩;exact⟨hle.trans hp.le,by have:=hp.nat;rwa [hv]at this⟩
theorem Hm{H:Heap}{x:Nat}(hx:x<18446744073709551616):
 Fn Tryz.prog 76 #[.int .u64 (x:Int)] H (nr H x):=by
 refine a7 (args:=[_]) Tryz.func76 rfl rfl Tryz.ntmps76 rfl rfl fun w0=> ?_;refine aj [0] rfl ?_;refine ag (ab 1 rfl (ae [0] ?_));refine ag (ab 1 rfl (ae [0,3] ?_));refine ao (aF (fZ (fun(y:Nat)(v:Value)(o:List Nat)=>y) (fun(y:Nat)(v:Value)(o:List Nat)=>put (put (emp) 0 (.val (.int .u64 (y:Int)))) 3 (.val (v))) (fun(y:Nat)(v:Value)(o:List Nat) H'=>Heap.le H H'∧kQ H' v o∧y≤x∧o++an y=an x) x (.slice none 0 0) [] (⟨.refl _,yI _,Nat.le_refl _,rfl⟩) ar ?_));rintro y v o H1 ⟨hle,cC,wu,ho⟩;obtain⟨A,c,rfl⟩:=bW.form cC
 have dA:o.length≤(an x).length:=by rw[←ho];simp
 have cP:(an x).length≤3:=jd.2 (by rw[cj];omega);refine ao (ag (ab 2 rfl (ae [0,3,5] ?_)));refine aC rfl (fun hb=> ?_) (fun hb=> ?_)
 ·
  have hb:0<y:=by simpa using hb
  refine aA (aj [0,3] rfl ?_);refine aF (ag (ab 2 rfl (m7 rfl rfl (by omega) (by omega) (dd ah rfl rfl rfl ⟨by omega,by omega⟩ (cW Tryz.underlying29 eD rfl rfl rfl rfl rfl rfl rfl ?_)))));intro gb bx;refine dR Tryz.underlying29 eD rfl rfl (cC.ins _ bx) (rI (VM y 1000000000)) (rfl) (oH _) (by omega) (by omega) ?_;intro v1 H2 ha;refine ab 1 rfl (ae [0,3] ?_);refine aB rfl (ab 1 rfl (lP rfl rfl (by omega) (by omega) ⟨by omega,by omega⟩ (ab 1 rfl (aw ?_))))
  have jt:0<y:=by omega
  rw[yF jt]at ho;exact⟨y/B,v1,o ++ [y%B],Nat.div_lt_self jt (by decide),ar,(hle.trans (Heap.bB _ bx)).trans ha.le,ha.pP rfl rfl,Nat.le_trans (Nat.div_le_self _ _) wu,by simpa using ho⟩
 ·
  have hb:y=0:=by simpa using hb
  refine aV (aj [3] rfl ?_);refine ag (ab 2 rfl (ae [2] ?_));refine aD ⟨.inr rfl,_,.tmp rfl (.nil),?_⟩;subst hb;exact⟨hle,Di (cC.lim) (by rw[show o=an x by simpa [qv]using ho];exact fP x) (by rw[show o=an x by simpa [qv]using ho];exact cR x)⟩
theorem LM{H:Heap}{u v:Value}{x y:Nat}(hx:de H u x)(hy:de H v y)(hm:((an x).length:Int)≤35184372088832):
 Fn Tryz.prog 80 #[u,v] H (uY H (.int .i64 (kF x y))):=by
 obtain⟨A,c,rfl,hc,hr⟩:=hx
 obtain⟨A',c',rfl,jH,dQ⟩:=hy;refine a7 (args:=[_,_]) Tryz.func80 rfl rfl Tryz.ntmps80 rfl rfl fun w0=> ?_;refine aj [0,1] rfl ?_;refine ag (ab 1 rfl (ae [0,1] ?_));refine ao (ag (ab 5 rfl (ae [0,1,10] ?_)));refine aC rfl (fun hb=> ?_) (fun hb=> ?_)
 ·
  have hl:(an x).length≠(an y).length:=by simp at hb;omega
  refine ao (ag (ab 5 rfl (ae [15] ?_)));refine aC rfl (fun hb=> ?_) (fun hb=> ?_)
  ·
   simp at hb
   refine ag (ab 1 rfl (ae [4] ?_));refine aD ⟨.inr rfl,_,.tmp rfl (.nil),?_⟩;exact⟨rfl,by rw[Kt (Kv hb)];rfl⟩
  ·
   simp at hb
   refine aA (aj [] rfl ?_);refine ag (ab 1 rfl (ae [4] ?_));refine aD ⟨.inr rfl,_,.tmp rfl (.nil),?_⟩;exact⟨rfl,by rw[Ku (Kv (by omega))];rfl⟩
 ·
  have hl:(an x).length=(an y).length:=by simp at hb;omega
  refine aA (aj [0,1] rfl ?_);refine ao (ag (ab 2 rfl (cV rfl rfl ⟨by omega,by omega⟩ (ab 1 rfl (ae [0,1,5] ?_)))));refine aF (gG (fun(k:Nat)=>k) (fun(k:Nat)=>put (put (put (emp) 0 (.val (.slice A (an x).length c))) 1 (.val (.slice A' (an y).length c'))) 5 (.val (.int .i64 ((k:Int)-1)))) (fun(k:Nat) H'=>H'=H∧k≤(an x).length∧(an x).drop k=(an y).drop k) (an x).length (⟨rfl,Nat.le_refl _,by rw[List.drop_of_length_le (Nat.le_refl _),List.drop_of_length_le (by omega)]⟩) ar ?_);rintro k H1 ⟨rfl,hk,hd⟩;refine ao (ag (ab 2 rfl (ae [0,1,5,20] ?_)));refine aC rfl (fun hb=> ?_) (fun hb=> ?_)
  ·
   simp at hb
   obtain⟨p,hp⟩:∃p,(an x)[k-1]? = some p:=⟨_,List.getElem?_eq_getElem (by omega)⟩;obtain⟨q,hq⟩:∃q,(an y)[k-1]? = some q:=⟨_,List.getElem?_eq_getElem (by omega)⟩
   have hj:((k:Int)-1).toNat=k-1:=by omega
   have fa:(an x).drop (k-1+1)=(an y).drop (k-1+1):=by rw[show k-1+1=k by omega];exact hd
   refine aA (aj [0,1,5] rfl ?_);refine ao (aF (ao (bO .bL [0,1,2,3,4,5,6,7,8] follows (by kernel_rfl) ?_)));refine ab 2 rfl (aQ ah rfl rfl rfl rfl rfl (hr) (by rw[hj];exact dr hp) (by omega) (by omega) fun _=> ?_);refine ab 2 rfl (aQ ah rfl rfl rfl rfl rfl (dQ) (by rw[hj];exact dr hq) (by omega) (by omega) fun _=> ?_);refine ab 1 rfl (ae [0,1,5,31] ?_);refine aC rfl (fun hb=> ?_) (fun hb=> ?_)
   ·
    have ni:p<q:=by simpa using hb
    refine ag (ab 1 rfl (ae [4] ?_));refine aD ⟨.inr rfl,_,.tmp rfl (.nil),?_⟩;exact⟨rfl,by rw[Kt (by have:=Ks (fP x).lt hp hq fa ni;rwa [cR,cR]at this)];rfl⟩
   have ni:¬p<q:=by simpa using hb
   refine aA (aj [0,1,5] rfl ?_);refine bO .bL [0,1,2,3,4,5,6,7,8] follows (by kernel_rfl) ?_;refine ab 2 rfl (aQ ah rfl rfl rfl rfl rfl (hr) (by rw[hj];exact dr hp) (by omega) (by omega) fun _=> ?_);refine ab 2 rfl (aQ ah rfl rfl rfl rfl rfl (dQ) (by rw[hj];exact dr hq) (by omega) (by omega) fun _=> ?_);refine ab 1 rfl (ae [0,1,5,40] ?_);refine aC rfl (fun hb=> ?_) (fun hb=> ?_)
   ·
    have F3:q<p:=by simpa using hb
    refine ag (ab 1 rfl (ae [4] ?_));refine aD ⟨.inr rfl,_,.tmp rfl (.nil),?_⟩;exact⟨rfl,by rw[Ku (by have:=Ks (fP y).lt hq hp fa.symm F3;rwa [cR,cR]at this)];rfl⟩
   have F3:¬q<p:=by simpa using hb
   refine aA (aj [0,1,5] rfl ?_);refine aB rfl (ab 1 rfl (cV rfl rfl ⟨by omega,by omega⟩ (ab 1 rfl (aw ?_))))
   obtain rfl:p=q:=by omega
   exact⟨k-1,by omega,ar,rfl,by omega,VJ (by omega) hp hq hd⟩
  simp at hb
  refine aV (aj [] rfl ?_);refine ag (ab 1 rfl (ae [4] ?_));refine aD ⟨.inr rfl,_,.tmp rfl (.nil),?_⟩
  obtain rfl:k=0:=by omega
  have:x=y:=by rw[←cR x,←cR y];simpa using congrArg val hd
  exact⟨rfl,by rw[this,VI];rfl⟩
end Go.au
namespace Go.au
open Go.Proofs Num
theorem getD_lt{l:List Nat}(h:Lt l)(k:Nat):(l[k]?).getD 0<1000000000:=by
 cases hq:l[k]? with
 | none=>simp
 | some z=>have:=h.get hq;rw[cj]at this;simpa using this
theorem getD_some{l:List Nat}{k e:Nat}(he:e=(l[k]?).getD 0)(h:k<l.length):l[k]? = some e:=by
 rw[List.getElem?_eq_getElem h]at he⊢;simp at he;rw[he]
theorem getD_none{l:List Nat}{k e:Nat}(he:e=(l[k]?).getD 0)(h:l.length≤k):e=0:=by
 rw[he,List.getElem?_eq_none h];rfl
theorem agF{H:Heap}{u v:Value}{x y:Nat}(hx:de H u x)(hy:de H v y)(hm:((an x).length:Int)≤8796093022208)(bH:((an y).length:Int)≤8796093022208):
 Fn Tryz.prog 79 #[u,v] H (nr H (x+y)):=by
 obtain⟨A,c,rfl,hc,hr⟩:=hx
 obtain⟨A',c',rfl,jH,dQ⟩:=hy
 have jy:=(fP x).lt
 have eo:=(fP y).lt
 obtain⟨M,hM⟩:∃M,M=max (an x).length (an y).length:=⟨_,rfl⟩;refine a7 (args:=[_,_]) Tryz.func79 rfl rfl Tryz.ntmps79 rfl rfl fun w0=> ?_;refine aj [0,1] rfl ?_;refine ag (ab 1 rfl (ae [0,1] ?_));refine ag (ab 1 rfl (ae [0,1,5] ?_));refine ag (ab 1 rfl (ae [0,1,5,6] ?_));refine ao (ag (ab 1 rfl (ae [0,1,5,6,7] ?_)));refine aF (oD (fun(k:Nat)(v:Value)(o:List Nat)(cr:Nat)=>M+1-k) (fun(k:Nat)(v:Value)(o:List Nat)(cr:Nat)=>put (put (put (put (put (emp) 0 (.val (.slice A (an x).length c))) 1 (.val (.slice A' (an y).length c'))) 5 (.val (v))) 6 (.val (.int .u32 (cr:Int)))) 7 (.val (.int .i64 (k:Int)))) (fun(k:Nat)(v:Value)(o:List Nat)(cr:Nat) H'=>Heap.le H H'∧kQ H' v o∧k≤M+1∧o.length=k∧Lt o∧cr≤1∧val o+B^k*cr=val ((an x).take k)+val ((an y).take k)∧(k=M+1→cr=0∧B^M≤val o)) 0 _ [] 0 (⟨.refl _,yI _,by omega,rfl,Lt.nil,by omega,by simp[val],by omega⟩) ar ?_);rintro k v o cr H1 ⟨hle,cC,hk,dA,ee,jL,hv,hM1⟩;obtain⟨Ao,co,rfl⟩:=bW.form cC;refine Dd (put (put (put (put (put (emp) 0 (.val (.slice A (an x).length c))) 1 (.val (.slice A' (an y).length c'))) 5 (.val (.slice Ao o.length co))) 6 (.val (.int .u32 (cr:Int)))) 7 (.val (.int .i64 (k:Int)))) (fun H'=>H'=H1∧k≤M∧(k<(an x).length∨k<(an y).length∨0<cr)) ?_ ?_
 ·
  by_cases nU:k<(an x).length
  ·
   skip
   refine ag (ab 3 rfl (aI true rfl rfl (jK (by omega)) (ab 10 rfl (ae [0,1,5,6,7,22] ?_))));refine dN rfl (aA ?_);exact⟨ar,rfl,by omega,.inl nU⟩
  ·
   by_cases qL:k<(an y).length
   skip
   ·
    skip
    refine ag (ab 3 rfl (aI false rfl rfl (ik (by omega)) (ab 4 rfl (aI true rfl rfl (jK (by omega)) (ab 5 rfl (ae [0,1,5,6,7,22] ?_))))));refine dN rfl (aA ?_);exact⟨ar,rfl,by omega,.inr (.inl qL)⟩
   skip
   refine ag (ab 3 rfl (aI false rfl rfl (ik (by omega)) (ab 4 rfl (aI false rfl rfl (ik (by omega)) (ab 5 rfl (ae [0,1,5,6,7,22] ?_))))));refine aC rfl (fun hb=> ?_) (fun hb=> ?_)
   ·
    have hb:0<cr:=by simpa using hb
    refine aA ?_;exact⟨ar,rfl,by omega,.inr (.inr hb)⟩
   have hb:cr=0:=by simpa using hb
   refine aV (aj [5] rfl ?_);refine ag (ab 2 rfl (ae [4] ?_));refine aD ⟨.inr rfl,_,.tmp rfl (.nil),?_⟩;subst hb;rw[Nat.mul_zero,Nat.add_zero,List.take_of_length_le (by omega),List.take_of_length_le (by omega),cR,cR]at hv;refine⟨hle,Di cC.lim (last_pos ee dA ?_) hv⟩
   rcases Nat.eq_zero_or_pos k with e | e
   ·exact .inl e
   right
   by_cases h1:k=M+1
   ·
    have:=(hM1 h1).2;rw[show k-1=M by omega];exact this
   have h2:k=M:=by omega
   rw[hv]
   rcases Nat.le_total (an x).length (an y).length with h3 | h3
   ·
    have h4:k=(an y).length:=by omega
    have h5:=O7 (y:=y) (Nat.pos_of_ne_zero fun e0=>by rw[jX.2 e0]at h4;omega);rw[h4];omega
   have h4:k=(an x).length:=by omega
   have h5:=O7 (y:=x) (Nat.pos_of_ne_zero fun e0=>by rw[jX.2 e0]at h4;omega);rw[h4];omega
 ·
  rintro H2 ⟨rfl,hkM,amF⟩;obtain⟨da,Hn⟩:∃e,e=((an x)[k]?).getD 0:=⟨_,rfl⟩;obtain⟨db,s5⟩:∃e,e=((an y)[k]?).getD 0:=⟨_,rfl⟩
  have amG:da<1000000000:=by rw[Hn];exact getD_lt jy k
  have amH:db<1000000000:=by rw[s5];exact getD_lt eo k
  refine ao (aF (ag (ab 2 rfl (ae [0,1,5,7,8] ?_))));refine kE (fun(sv:Int)=>put (put (put (put (put (emp) 0 (.val (.slice A (an x).length c))) 1 (.val (.slice A' (an y).length c'))) 5 (.val (.slice Ao o.length co))) 7 (.val (.int .i64 (k:Int)))) 8 (.val (.int .u32 sv))) (fun(sv:Int) H'=>H'=H2∧sv=(cr:Int)+da) ?_ ?_
  ·
   refine ag (ab 4 rfl (ae [0,1,5,7,8,29] ?_));refine aC rfl (fun hb=> ?_) (fun hb=> ?_)
   ·
    have hb:k<(an x).length:=by simpa using hb
    have hz:=getD_some Hn hb;refine aB rfl (ab 3 rfl (aQ ah rfl rfl rfl rfl rfl (hr.le hle) (dr hz) (by omega) (by omega) fun _=>(aG rfl rfl ⟨by omega,by omega⟩ (ab 1 rfl (aw ?_)))));exact⟨(cr:Int)+da,ar,rfl,rfl⟩
   have hb:(an x).length≤k:=by simpa using hb
   have hz:=getD_none Hn hb;refine aA ?_;exact⟨(cr:Int),ar,rfl,by omega⟩
  rintro sv H3 ⟨rfl,wy⟩;refine kE (fun(LN:Int)=>put (put (put (put (put (emp) 0 (.val (.slice A (an x).length c))) 1 (.val (.slice A' (an y).length c'))) 5 (.val (.slice Ao o.length co))) 7 (.val (.int .i64 (k:Int)))) 8 (.val (.int .u32 LN))) (fun(LN:Int) H'=>H'=H3∧LN=(cr:Int)+da+db) ?_ ?_
  ·
   refine ag (ab 4 rfl (ae [0,1,5,7,8,39] ?_));refine aC rfl (fun hb=> ?_) (fun hb=> ?_)
   ·
    have hb:k<(an y).length:=by simpa using hb
    have hz:=getD_some s5 hb;refine aB rfl (ab 3 rfl (aQ ah rfl rfl rfl rfl rfl (dQ.le hle) (dr hz) (by omega) (by omega) fun _=>(aG rfl rfl ⟨by omega,by omega⟩ (ab 1 rfl (aw ?_)))));exact⟨sv+db,ar,rfl,by omega⟩
   have hb:(an y).length≤k:=by simpa using hb
   have hz:=getD_none s5 hb;refine aA ?_;exact⟨sv,ar,rfl,by omega⟩
  rintro LN H4 ⟨rfl,amI⟩;refine ag (ab 1 rfl (lP rfl rfl (by omega) (by omega) ⟨by omega,by omega⟩ (ab 1 rfl (ae [0,1,5,6,7,8] ?_))));refine aB rfl (ab 2 rfl (m7 rfl rfl (by omega) (by omega) (cW Tryz.underlying29 eD rfl rfl rfl rfl rfl rfl rfl ?_)));intro gb bx;refine dR Tryz.underlying29 eD rfl rfl (cC.ins _ bx) (rI (y:=(cr+da+db)%1000000000) (by omega)) (rfl) (oH _) (by omega) (by omega) ?_;intro v1 H5 ha;refine ab 1 rfl (aw (aj [0,1,5,6,7] rfl ?_));refine aB rfl (ab 1 rfl (aG rfl rfl ⟨by omega,by omega⟩ (ab 1 rfl (aw ?_))));have dO:=Dg (s:=cr+da+db) (a:=cr) (b:=da+db) (u:=val ((an x).take (k+1))+val ((an y).take (k+1))) dA hv (by omega) (by rw[yG,yG,←Hn,←s5,Nat.mul_add];omega);refine⟨k+1,v1,o ++ [(cr+da+db)%B],(cr+da+db)/1000000000,by omega,ar,(hle.trans (Heap.bB _ bx)).trans ha.le,ha.pP rfl rfl,by omega,by simp[dA],ee.snoc (Nat.mod_lt _ nh),by omega,dO,fun e=> ?_⟩;have h1:=getD_none Hn (by omega);have h2:=getD_none s5 (by omega)
  obtain rfl:k=M:=by omega
  have h3:cr=1:=by omega
  subst h1 h2 h3;rw[rF,dA,show (1+0+0)%B=1 from rfl,show (1+0+0)/1000000000=0 from rfl];exact⟨rfl,by omega⟩
end Go.au
namespace Go.au
open Go.Proofs Num
theorem LO{H:Heap}{u v:Value}{x y:Nat}(hx:de H u x)(hy:de H v y)(wu:y≤x)(hm:((an x).length:Int)≤8796093022208):
 Fn Tryz.prog 81 #[u,v] H (nr H (x-y)):=by
 obtain⟨A,c,rfl,hc,hr⟩:=hx
 obtain⟨A',c',rfl,jH,dQ⟩:=hy
 have jy:=(fP x).lt
 have eo:=(fP y).lt
 have hl:=my wu;refine a7 (args:=[_,_]) Tryz.func81 rfl rfl Tryz.ntmps81 rfl rfl fun w0=> ?_;refine aj [0,1] rfl ?_;refine ag (ab 1 rfl (ae [0,1] ?_));refine ag (ab 2 rfl (gF Tryz.underlying29 eD rfl rfl rfl (by omega) (by omega) (by omega) (by omega) ?_));intro g hg;rw[show (((an x).length:Int)).toNat=(an x).length from by omega,yK];have qx:=fun e=>hr.le (Heap.bB (g:=g) e hg);have F4:=fun e=>dQ.le (Heap.bB (g:=g) e hg);refine ab 1 rfl (ae [0,1,5] ?_);refine ag (ab 1 rfl (ae [0,1,5,6] ?_));refine ao (ag (ab 1 rfl (ae [0,1,5,6,7] ?_)));refine aF (fZ (fun(k:Nat)(o:List Nat)(br:Nat)=>(an x).length-k) (fun(k:Nat)(o:List Nat)(br:Nat)=>put (put (put (put (put (emp) 0 (.val (.slice A (an x).length c))) 1 (.val (.slice A' (an y).length c'))) 5 (.val (.slice (some ⟨g,0,none⟩) (an x).length (an x).length))) 6 (.val (.int .u32 (br:Int)))) 7 (.val (.int .i64 (k:Int)))) (fun(k:Nat)(o:List Nat)(br:Nat) H'=>H'=ins H g (dE o (an x).length)∧k≤(an x).length∧o.length=(an x).length∧Lt o∧br≤1∧val ((an x).take k)+B^k*br=val (o.take k)+val ((an y).take k)) 0 _ 0 (⟨rfl,by omega,by simp,Lt.replicate _,by omega,by simp[val]⟩) ar ?_)
 rintro k o br H1 ⟨rfl,hk,dA,ee,uS,hv⟩;refine ao (ag (ab 4 rfl (ae [0,1,5,6,7,15] ?_)));refine aC rfl (fun hb=> ?_) (fun hb=> ?_)
 ·
  have hb:k<(an x).length:=by simpa using hb
  obtain⟨d,hd⟩:∃d,(an x)[k]? = some d:=⟨_,List.getElem?_eq_getElem hb⟩;have lQ:=jy.get hd;rw[cj]at lQ;obtain⟨e,he⟩:∃e,e=((an y)[k]?).getD 0:=⟨_,rfl⟩
  have Dj:e<1000000000:=by rw[he];exact getD_lt eo k
  refine aA (aj [0,1,5,6,7] rfl ?_);refine ao (aF (ag (ab 2 rfl (ae [0,1,5,7,8] ?_))));refine kE (fun(sv:Int)=>put (put (put (put (put (emp) 0 (.val (.slice A (an x).length c))) 1 (.val (.slice A' (an y).length c'))) 5 (.val (.slice (some ⟨g,0,none⟩) (an x).length (an x).length))) 7 (.val (.int .i64 (k:Int)))) 8 (.val (.int .u32 sv))) (fun(sv:Int) H'=>H'=ins H g (dE o (an x).length)∧sv=(br:Int)+e) ?_ ?_
  ·
   refine ag (ab 4 rfl (ae [0,1,5,7,8,22] ?_));refine aC rfl (fun hb=> ?_) (fun hb=> ?_)
   ·
    have hb:k<(an y).length:=by simpa using hb
    have hz:=getD_some he hb;refine aB rfl (ab 3 rfl (aQ ah rfl rfl rfl rfl rfl (F4 _) (dr hz) (by omega) (by omega) fun _=>(aG rfl rfl ⟨by omega,by omega⟩ (ab 1 rfl (aw ?_)))));exact⟨(br:Int)+e,ar,rfl,rfl⟩
   have hb:(an y).length≤k:=by simpa using hb
   have hz:=getD_none he hb;refine aA ?_;exact⟨(br:Int),ar,rfl,by omega⟩
  ·
   rintro sv H4 ⟨rfl,wy⟩;refine ag (ab 2 rfl (aQ ah rfl rfl rfl rfl rfl (qx _) (dr hd) (by omega) (by omega) fun _=>(ab 2 rfl (ae [0,1,5,7,8,34] ?_))));refine aC rfl (fun hb=> ?_) (fun hb=> ?_)
   ·
    have hb:sv≤d:=by simpa using hb
    refine aB rfl (ab 4 rfl (aQ ah rfl rfl rfl rfl rfl (qx _) (dr hd) (by omega) (by omega) fun _=>(ab 1 rfl (cV rfl rfl ⟨by omega,by omega⟩ ?_))));obtain⟨ti,ak,al⟩:=oG;refine cQ (.inl rfl) ah rfl rfl rfl (by omega) (by omega) (bD _ _ _) rfl (by rw[oI];omega) ak al (fun _=>rfl) rfl rfl rfl fun _=> ?_;refine ab 1 rfl (aw (aj [0,1,5,6,7] rfl ?_));refine aB rfl (ab 1 rfl (aG rfl rfl ⟨by omega,by omega⟩ (ab 1 rfl (aw ?_))));have dO:=FY (o:=o.take k) (s:=d-br-e) (br':=0) (d:=d) (e:=e) (by simp;omega) hv (by omega) (kP hd) (show val ((an y).take (k+1))=val ((an y).take k)+B^k*e by rw[yG,←he]);rw[←yL (by omega)]at dO;exact⟨k+1,o.set k (d-br-e),0,by omega,ar,by rw[uR (y:=d-br-e) (by omega)];rfl,by omega,by simp[dA],ee.set (by rw[cj];omega),by omega,dO⟩
   have hb:(d:Int)<sv:=by simpa using hb
   refine aB rfl (ab 4 rfl (aQ ah rfl rfl rfl rfl rfl (qx _) (dr hd) (by omega) (by omega) fun _=>(aG rfl rfl ⟨by omega,by omega⟩ (ab 1 rfl (cV rfl rfl ⟨by omega,by omega⟩ ?_)))));obtain⟨ti,ak,al⟩:=oG;refine cQ (.inl rfl) ah rfl rfl rfl (by omega) (by omega) (bD _ _ _) rfl (by rw[oI];omega) ak al (fun _=>rfl) rfl rfl rfl fun _=> ?_;refine ab 1 rfl (aw (aj [0,1,5,6,7] rfl ?_));refine aB rfl (ab 1 rfl (aG rfl rfl ⟨by omega,by omega⟩ (ab 1 rfl (aw ?_))));have dO:=FY (o:=o.take k) (s:=d+1000000000-br-e) (br':=1) (d:=d) (e:=e) (by simp;omega) hv (by rw[cj];omega) (kP hd) (show val ((an y).take (k+1))=val ((an y).take k)+B^k*e by rw[yG,←he]);rw[←yL (by omega)]at dO;exact⟨k+1,o.set k (d+1000000000-br-e),1,by omega,ar,by rw[uR (y:=d+1000000000-br-e) (by omega)];rfl,by omega,by simp[dA],ee.set (by rw[cj];omega),by omega,dO⟩
 ·
  have hb:(an x).length≤k:=by simpa using hb
  obtain rfl:k=(an x).length:=by omega
  rw[List.take_length,List.take_of_length_le hl,cR,cR,List.take_of_length_le (by omega)]at hv;have wv:=uO ee;rw[dA]at wv
  have tl:br=0:=by
   rcases Nat.eq_zero_or_pos br with h|h
   ·exact h
   ·
    obtain rfl:br=1:=by omega
    omega
  refine aV (aj [5] rfl ?_);refine ag (ab 1 rfl (aE rfl rfl (BJ (AN _ _ o _ _ dA.symm (Nat.le_refl _)) ee (by omega)) ?_));intro v1 H4 hp;refine ab 1 rfl (ae [4] ?_);refine aD ⟨.inr rfl,_,.tmp rfl (.nil),?_⟩;exact⟨(Heap.bB _ hg).trans hp.le,by have:=hp.nat;rwa [show val o=x-y by rw[tl]at hv;omega]at this⟩
theorem xh{H:Heap}{u v:Value}{x y:Nat}(hx:de H u x)(hy:de H v y)(hm:((an x).length:Int)<8796093022208)(bH:((an y).length:Int)<8796093022208):
 Fn Tryz.prog 78 #[u,v] H (nr H (x*y)):=by
 obtain⟨A,c,rfl,hc,hr⟩:=hx
 obtain⟨A',c',rfl,jH,dQ⟩:=hy
 have jy:=(fP x).lt
 have eo:=(fP y).lt;refine a7 (args:=[_,_]) Tryz.func78 rfl rfl Tryz.ntmps78 rfl rfl fun w0=> ?_;refine aj [0,1] rfl ?_;refine ag (ab 1 rfl (ae [0,1] ?_));refine ag (ab 4 rfl (aG rfl rfl ⟨by omega,by omega⟩ (aG rfl rfl ⟨by omega,by omega⟩ (gF Tryz.underlying29 eD rfl rfl rfl (by omega) (by omega) (by omega) (by omega) ?_))));intro g hg;rw[show (((an x).length:Int)+((an y).length:Int)+1).toNat=((an x).length+(an y).length+1)from by omega,yK];have qx:=fun e=>hr.le (Heap.bB (g:=g) e hg);have F4:=fun e=>dQ.le (Heap.bB (g:=g) e hg);refine ab 1 rfl (ae [0,1,5] ?_);refine ao (ag (ab 1 rfl (ae [0,1,5,6] ?_)));refine aF (gX (fun(i:Nat)(o:List Nat)=>(an x).length-i) (fun(i:Nat)(o:List Nat)=>put (put (put (put (emp) 0 (.val (.slice A (an x).length c))) 1 (.val (.slice A' (an y).length c'))) 5 (.val (.slice (some ⟨g,0,none⟩) ((an x).length+(an y).length+1) ((an x).length+(an y).length+1)))) 6 (.val (.int .i64 (i:Int)))) (fun(i:Nat)(o:List Nat) H'=>H'=ins H g (dE o ((an x).length+(an y).length+1))∧i≤(an x).length∧o.length=((an x).length+(an y).length+1)∧Lt o∧rJ o (i+(an y).length)∧val o=val ((an x).take i)*y) 0 _ (⟨rfl,by omega,by simp,Lt.replicate _,VU _ _,by simp[val,VL]⟩) ar ?_)
 rintro i o H1 ⟨rfl,hi,dA,ee,hz,hv⟩;refine ao (ag (ab 4 rfl (ae [0,1,5,6,19] ?_)));refine aC rfl (fun hb=> ?_) (fun hb=> ?_)
 ·
  have hb:i<(an x).length:=by simpa using hb
  obtain⟨d,hd⟩:∃d,(an x)[i]? = some d:=⟨_,List.getElem?_eq_getElem hb⟩;have lQ:=jy.get hd;rw[cj]at lQ;refine aA (aj [0,1,5,6] rfl ?_);refine ao (aF (ag (ab 1 rfl (ae [0,1,5,6,7] ?_))));refine ag (ab 1 rfl (ae [0,1,5,6,7,8] ?_));refine aF (fZ (fun(j:Nat)(o2:List Nat)(cr:Nat)=>(an y).length+1-j) (fun(j:Nat)(o2:List Nat)(cr:Nat)=>put (put (put (put (put (put (emp) 0 (.val (.slice A (an x).length c))) 1 (.val (.slice A' (an y).length c'))) 5 (.val (.slice (some ⟨g,0,none⟩) ((an x).length+(an y).length+1) ((an x).length+(an y).length+1)))) 6 (.val (.int .i64 (i:Int)))) 7 (.val (.int .u64 (cr:Int)))) 8 (.val (.int .i64 (j:Int)))) (fun(j:Nat)(o2:List Nat)(cr:Nat) H'=>H'=ins H g (dE o2 ((an x).length+(an y).length+1))∧j≤(an y).length+1∧o2.length=((an x).length+(an y).length+1)∧Lt o2∧cr<1000000000∧rJ o2 (i+(an y).length+1)∧(j≤(an y).length→rJ o2 (i+(an y).length))∧(j=(an y).length+1→cr=0)∧val o2+B^(i+j)*cr=val ((an x).take i)*y+B^i*d*val ((an y).take j)) 0 o 0 (⟨rfl,by omega,dA,ee,by omega,fun t z ht=>hz t z (by omega),fun _=>hz,by omega,by simp[val,hv]⟩) ar ?_);rintro j o2 cr H1 ⟨rfl,hj,F5,AQ,jL,oK,rY,uU,dF⟩
  refine Dd (put (put (put (put (put (put (emp) 0 (.val (.slice A (an x).length c))) 1 (.val (.slice A' (an y).length c'))) 5 (.val (.slice (some ⟨g,0,none⟩) ((an x).length+(an y).length+1) ((an x).length+(an y).length+1)))) 6 (.val (.int .i64 (i:Int)))) 7 (.val (.int .u64 (cr:Int)))) 8 (.val (.int .i64 (j:Int)))) (fun H'=>H'=ins H g (dE o2 ((an x).length+(an y).length+1))∧j≤(an y).length) ?_ ?_
  ·
   by_cases hjb:j<(an y).length
   ·
    skip
    refine ag (ab 3 rfl (aI true rfl rfl (jK (by omega)) (ab 4 rfl (ae [0,1,5,6,7,8,29] ?_))));refine dN rfl (aA ?_);exact⟨ar,rfl,by omega⟩
   skip
   refine ag (ab 3 rfl (aI false rfl rfl (ik (by omega)) (ab 4 rfl (ae [0,1,5,6,7,8,29] ?_))));refine aC rfl (fun hb=> ?_) (fun hb=> ?_)
   ·
    have hb:0<cr:=by simpa using hb
    refine aA ?_;exact⟨ar,rfl,by omega⟩
   have hb:cr=0:=by simpa using hb
   subst hb;rw[List.take_of_length_le (l:=an y) (i:=j) (by omega),cR,Nat.mul_zero,Nat.add_zero]at dF;refine aV (aj [0,1,5,6] rfl ?_);refine aB rfl (ab 1 rfl (aG rfl rfl ⟨by omega,by omega⟩ (ab 1 rfl (aw ?_))));refine⟨i+1,o2,by omega,ar,rfl,by omega,F5,AQ,by rw[Nat.add_right_comm];exact oK,?_⟩;rw[kP hd,Nat.add_mul]
   omega
  ·
   rintro H4 ⟨rfl,Xx⟩;obtain⟨p,hp⟩:∃p,p=((an y)[j]?).getD 0:=⟨_,rfl⟩
   have yJ:p<1000000000:=by rw[hp];exact getD_lt eo j
   obtain⟨e,he⟩:∃e,o2[i+j]? = some e:=⟨_,List.getElem?_eq_getElem (by omega)⟩;have Dj:=AQ.get he;rw[cj]at Dj
   have F6:((i:Int)+(j:Int)).toNat=i+j:=by omega
   have VR:d*p≤999999999*999999999:=Nat.mul_le_mul (by omega) (by omega)
   have VS:(d:Int)*(p:Int)=((d*p:Nat):Int):=by simp
   refine ao (aF (ag (ab 4 rfl (aG rfl rfl ⟨by omega,by omega⟩ (aQ ah rfl rfl rfl rfl rfl (Kz _ _ _ _) (by rw[F6];exact dr he) (by omega) (by omega) fun _=> ?_)))));refine dd ah rfl rfl rfl ⟨by omega,by omega⟩ (aG rfl rfl ⟨by omega,by omega⟩ (ab 1 rfl (ae [0,1,5,6,7,8] ?_)));refine kE (fun(sv:Int)=>put (put (put (put (put (put (emp) 0 (.val (.slice A (an x).length c))) 1 (.val (.slice A' (an y).length c'))) 5 (.val (.slice (some ⟨g,0,none⟩) ((an x).length+(an y).length+1) ((an x).length+(an y).length+1)))) 6 (.val (.int .i64 (i:Int)))) 7 (.val (.int .u64 sv))) 8 (.val (.int .i64 (j:Int)))) (fun(sv:Int) H'=>H'=ins H g (dE o2 ((an x).length+(an y).length+1))∧sv=((d*p+e+cr:Nat):Int)) ?_ ?_
   ·
    refine ag (ab 4 rfl (ae [0,1,5,6,7,8,44] ?_));refine aC rfl (fun hb=> ?_) (fun hb=> ?_)
    ·
     have hb:j<(an y).length:=by simpa using hb
     have dX:=getD_some hp hb;refine eu .bL [0,1,2,3,4,5,6,7,8,9,10,11,12,13] follows (by kernel_rfl) ?_;refine ab 3 rfl (aQ ah rfl rfl rfl rfl rfl (qx _) (dr hd) (by omega) (by omega) fun _=>(dd ah rfl rfl rfl ⟨by omega,by omega⟩ (ab 2 rfl (aQ ah rfl rfl rfl rfl rfl (F4 _) (dr dX) (by omega) (by omega) fun _=>(dd ah rfl rfl rfl ⟨by omega,by omega⟩ (gM rfl rfl ⟨by omega,by omega⟩ (aG rfl rfl ⟨by omega,by omega⟩ (ab 1 rfl (aw ?_)))))))));exact⟨((d*p+e+cr:Nat):Int),ar,rfl,rfl⟩
    have hb:(an y).length≤j:=by simpa using hb
    have dX:=getD_none hp hb
    have PN:d*p=0:=by rw[dX,Nat.mul_zero]
    refine aA ?_;exact⟨((d*p+e+cr:Nat):Int),ar,rfl,rfl⟩
   rintro sv H4 ⟨rfl,wy⟩;refine ag (ab 3 rfl (aG rfl rfl ⟨by omega,by omega⟩ (ab 1 rfl (m7 rfl rfl (by omega) (by omega) (dd ah rfl rfl rfl ⟨by omega,by omega⟩ ?_)))));obtain⟨ti,ak,al⟩:=oG;refine cQ (.inl rfl) ah rfl rfl rfl (by omega) (by omega) (bD _ _ _) rfl (by rw[oI];omega) ak al (fun _=>rfl) rfl rfl rfl fun _=> ?_;refine ae [0,1,5,6,7,8] ?_;refine aB rfl (ab 1 rfl (lP rfl rfl (by omega) (by omega) ⟨by omega,by omega⟩ (ab 1 rfl (aw (aj [0,1,5,6,7,8] rfl ?_)))));refine aB rfl (ab 1 rfl (aG rfl rfl ⟨by omega,by omega⟩ (ab 1 rfl (aw ?_))));refine⟨j+1,o2.set (i+j) ((d*p+e+cr)%B),(d*p+e+cr)/1000000000,by omega,ar,by rw[uR (y:=(d*p+e+cr)%B) (by rw[cj];omega),F6],by omega,by simp[F5],AQ.set (Nat.mod_lt _ nh),by omega,oK.set (by omega),fun h=>(rY (by omega)).set (by omega),fun h=> ?_,?_⟩
   ·
    have h1:=getD_none hp (by omega);have h2:=rY (by omega) (i+j) e (by omega) he;subst h1 h2
    omega
   rw[yG,←hp];exact VV he dF rfl
 ·
  have hb:(an x).length≤i:=by simpa using hb
  obtain rfl:i=(an x).length:=by omega
  rw[List.take_length,cR]at hv;refine aV (aj [5] rfl ?_);refine ag (ab 1 rfl (aE rfl rfl (BJ (AN _ _ o _ _ dA.symm (Nat.le_refl _)) ee (by omega)) ?_));intro v1 H4 hp;refine ab 1 rfl (ae [4] ?_);refine aD ⟨.inr rfl,_,.tmp rfl (.nil),?_⟩;exact⟨(Heap.bB _ hg).trans hp.le,by have:=hp.nat;rwa [hv]at this⟩
theorem agG{H:Heap}{u:Value}{l:List Nat}{m:Nat}(hu:jx H u l)(hl:Lt l)(hm:m<1000000000)(wz:0<m)(hs:(l.length:Int)≤8796093022208):
 Fn Tryz.prog 192 #[u,.int .u64 (m:Int)] H (fun v H'=>Heap.le H H'∧∃q,v = .tuple #[q,.int .u64 ((val l%m:Nat):Int)]∧de H' q (val l/m)):=by
 obtain⟨A,c,rfl,hc,hr⟩:=hu;refine a7 (args:=[_,_]) Tryz.func192 rfl rfl Tryz.ntmps192 rfl rfl fun w0=> ?_;refine aj [0,1] rfl ?_;refine ag (ab 2 rfl (ae [0,1] ?_));refine ag (ab 2 rfl (gF Tryz.underlying29 eD rfl rfl rfl (by omega) (by omega) (by omega) (by omega) ?_));intro g hg;rw[show ((l.length:Int)).toNat=l.length from by omega,yK];have qx:=fun e=>hr.le (Heap.bB (g:=g) e hg);refine ab 1 rfl (ae [0,1,6] ?_);refine ag (ab 1 rfl (ae [0,1,6,7] ?_));refine ao (ag (ab 2 rfl (cV rfl rfl ⟨by omega,by omega⟩ (ab 1 rfl (ae [0,1,6,7,8] ?_)))));refine aF (fZ (fun(k:Nat)(o:List Nat)(rs:Nat)=>k) (fun(k:Nat)(o:List Nat)(rs:Nat)=>put (put (put (put (put (emp) 0 (.val (.slice A l.length c))) 1 (.val (.int .u64 (m:Int)))) 6 (.val (.slice (some ⟨g,0,none⟩) l.length l.length))) 7 (.val (.int .u64 (rs:Int)))) 8 (.val (.int .i64 ((k:Int)-1)))) (fun(k:Nat)(o:List Nat)(rs:Nat) H'=>H'=ins H g (dE o l.length)∧k≤l.length∧o.length=l.length∧Lt o∧rs<m∧val (o.drop k)*m+rs=val (l.drop k)) l.length _ 0 (⟨rfl,by omega,by simp,Lt.replicate _,by omega,by simp[val]⟩) ar ?_);rintro k o rs H1 ⟨rfl,hk,dA,ee,yM,hv⟩;refine ao ?_
 refine ag (ab 2 rfl (ae [0,1,6,7,8,16] ?_));refine aC rfl (fun hb=> ?_) (fun hb=> ?_)
 ·
  have hb:1≤k:=by simp at hb;omega
  obtain⟨k,rfl⟩:∃j,k=j+1:=⟨k-1,by omega⟩;obtain⟨d,hd⟩:∃d,l[k]? = some d:=⟨_,List.getElem?_eq_getElem (by omega)⟩;have lQ:=hl.get hd;rw[cj]at lQ
  have hj:(((k+1:Nat):Int)-1).toNat=k:=by omega
  have jz:((rs:Int)*1000000000+(d:Int))/(m:Int)<1000000000:=Int.ediv_lt_of_lt_mul (by omega) (by omega);have cB:0≤((rs:Int)*1000000000+(d:Int))/(m:Int):=Int.ediv_nonneg (by omega) (by omega);refine aA (aj [0,1,6,7,8] rfl ?_);refine ao (aF (ag (ab 1 rfl (gM rfl rfl ⟨by omega,by omega⟩ (ab 2 rfl (aQ ah rfl rfl rfl rfl rfl (qx _) (by rw[hj];exact dr hd) (by omega) (by omega) fun _=> ?_))))));refine dd ah rfl rfl rfl ⟨by omega,by omega⟩ (aG rfl rfl ⟨by omega,by omega⟩ (ab 1 rfl (ae [0,1,6,7,8] ?_)));refine ag (ab 4 rfl (lP rfl rfl (by omega) (by omega) ⟨by omega,by omega⟩ (dd ah rfl rfl rfl ⟨by omega,by omega⟩ ?_)));obtain⟨ti,ak,al⟩:=oG;refine cQ (.inl rfl) ah rfl rfl rfl (by omega) (by omega) (bD _ _ _) rfl (by rw[oI];omega) ak al (fun _=>rfl) rfl rfl rfl fun _=> ?_;refine ae [0,1,6,7,8] ?_;refine aB rfl (ab 2 rfl (m7 rfl rfl (by omega) (by omega) (ab 1 rfl (aw (aj [0,1,6,7,8] rfl ?_)))));refine aB rfl (ab 1 rfl (cV rfl rfl ⟨by omega,by omega⟩ (ab 1 rfl (aw ?_))))
  have hq:(rs*1000000000+d)/m<1000000000:=by rw[Nat.div_lt_iff_lt_mul wz];omega
  refine⟨k,o.set k ((rs*1000000000+d)/m),(rs*1000000000+d)%m,by omega,ar,by rw[uR (y:=(rs*1000000000+d)/m) (by simp)];rw[hj],by omega,by simp[dA],ee.set (by rw[cj];omega),Nat.mod_lt _ wz,?_⟩;rw[set_drop (by omega),Dh hd,jv,jv,←hv];have:=Nat.div_add_mod (rs*1000000000+d) m
  simp only[cj,Nat.add_mul,Nat.mul_add,Nat.mul_assoc]
  rw[Nat.mul_comm m]at this
  omega
 ·
  have hb:k=0:=by simp at hb;omega
  subst hb
  simp only[List.drop_zero]at hv
  refine aV (aj [6,7] rfl ?_);refine ag (ab 1 rfl (aE rfl rfl (BJ (AN _ _ o _ _ dA.symm (Nat.le_refl _)) ee (by omega)) ?_));intro v1 H4 hp;refine ab 3 rfl (ae [4,5] ?_);refine aD ⟨.inr rfl,_,.tmp rfl (.tmp rfl (.nil)),?_⟩;refine⟨(Heap.bB _ hg).trans hp.le,v1,?_,?_⟩
  ·rw[(KC hv yM).2];rfl
  ·rw[(KC hv yM).1];exact hp.nat
end Go.au
namespace Go.au
open Go.Proofs Num
def agH(H:Heap)(v:Value)(H':Heap):Prop:=H'=H∧∃d:Nat,v = .int .u64 (d:Int)∧d≤999999999
theorem agI{H:Heap}{u v:Value}{x y:Nat}(hx:de H u x)(hy:de H v y)(Eg:2≤(an y).length)(qy:(an x).length≤(an y).length+1)(hm:((an y).length:Int)≤8796093022208):
 Fn Tryz.prog 193 #[u,v] H (agH H):=by
 obtain⟨A,c,rfl,hc,hr⟩:=hx
 obtain⟨A',c',rfl,jH,dQ⟩:=hy
 have jy:=(fP x).lt
 have eo:=(fP y).lt
 obtain⟨k,hk⟩:∃k,(an y).length=k+2:=⟨(an y).length-2,by omega⟩
 have uU:(((an y).length:Int)-1).toNat=k+1:=by omega
 have wA:(((an y).length:Int)-2).toNat=k:=by omega
 obtain⟨b1,fE⟩:∃z,(an y)[k+1]? = some z:=⟨_,List.getElem?_eq_getElem (by omega)⟩
 obtain⟨b0,iJ⟩:∃z,(an y)[k]? = some z:=⟨_,List.getElem?_eq_getElem (by omega)⟩
 have agJ:=eo.get fE
 have agK:=eo.get iJ
 have amJ:b1≠0:=(fP y).last b1 (by rw[List.getLast?_eq_getElem?,hk];exact fE)
 rw[cj]at agJ agK;refine a7 (args:=[_,_]) Tryz.func193 rfl rfl Tryz.ntmps193 rfl rfl fun w0=> ?_;refine aj [0,1] rfl ?_;refine ag (ab 1 rfl (ae [0,1] ?_));refine ag (ab 3 rfl (ae [0,1,5] ?_));refine ao (ag (ab 4 rfl (ae [0,1,5,15] ?_)));refine aC rfl (fun hb=> ?_) (fun hb=> ?_)
 ·
  skip
  refine ag (ab 1 rfl (ae [4] ?_));refine aD ⟨.inr rfl,_,.tmp rfl (.nil),?_⟩;exact⟨rfl,0,rfl,by omega⟩
 ·
  have hb:(an y).length≤(an x).length:=by simpa using hb
  obtain⟨r1,s7⟩:∃z,(an x)[k+1]? = some z:=⟨_,List.getElem?_eq_getElem (by omega)⟩;obtain⟨r0,s8⟩:∃z,(an x)[k]? = some z:=⟨_,List.getElem?_eq_getElem (by omega)⟩;have LQ:=jy.get s7;have agL:=jy.get s8;rw[cj]at LQ agL;have jz:((r1:Int)*1000000000+(r0:Int))/((b1:Int)*1000000000+(b0:Int))<1000000000:=Int.ediv_lt_of_lt_mul (by omega) (by omega);have cB:0≤((r1:Int)*1000000000+(r0:Int))/((b1:Int)*1000000000+(b0:Int)):=Int.ediv_nonneg (by omega) (by omega);obtain⟨q,hq⟩:∃q:Nat,(q:Int)=((r1:Int)*1000000000+(r0:Int))/((b1:Int)*1000000000+(b0:Int)):=⟨_,Int.toNat_of_nonneg cB⟩;rw[←hq]at jz;refine aA (aj [0,1,5] rfl ?_);refine bO .bL [0,1,2,3,4,5,6,7,8,9,10,11,12,13,14] follows (by kernel_rfl) ?_;refine ab 2 rfl (cV rfl rfl ⟨by omega,by omega⟩ (aQ ah rfl rfl rfl rfl rfl (dQ) (by rw[uU];exact dr fE) (by omega) (by omega) fun _=> ?_));refine dd ah rfl rfl rfl ⟨by omega,by omega⟩ (gM rfl rfl ⟨by omega,by omega⟩ (ab 2 rfl (cV rfl rfl ⟨by omega,by omega⟩ (aQ ah rfl rfl rfl rfl rfl (dQ) (by rw[wA];exact dr iJ) (by omega) (by omega) fun _=> ?_))));refine dd ah rfl rfl rfl ⟨by omega,by omega⟩ (aG rfl rfl ⟨by omega,by omega⟩ (ab 1 rfl (ae [0,5,6] ?_)))
  refine bO .bL [0,1,2,3,4,5,6,7,8,9,10,11,12,13,14] follows (by kernel_rfl) ?_;refine ab 2 rfl (cV rfl rfl ⟨by omega,by omega⟩ (aQ ah rfl rfl rfl rfl rfl (hr) (by rw[uU];exact dr s7) (by omega) (by omega) fun _=> ?_));refine dd ah rfl rfl rfl ⟨by omega,by omega⟩ (gM rfl rfl ⟨by omega,by omega⟩ (ab 2 rfl (cV rfl rfl ⟨by omega,by omega⟩ (aQ ah rfl rfl rfl rfl rfl (hr) (by rw[wA];exact dr s8) (by omega) (by omega) fun _=> ?_))));refine dd ah rfl rfl rfl ⟨by omega,by omega⟩ (aG rfl rfl ⟨by omega,by omega⟩ (ab 1 rfl (ae [0,5,6,7] ?_)));refine ao (ag (ab 4 rfl (ae [0,5,6,7,47] ?_)));refine aC rfl (fun hb=> ?_) (fun hb=> ?_)
  ·
   skip
   refine ag (ab 2 rfl (lP rfl rfl (by omega) (by omega) ⟨by rw[←hq];omega,by rw[←hq];omega⟩ ?_));rw[←hq];refine ab 1 rfl (ae [4] ?_);refine aD ⟨.inr rfl,_,.tmp rfl (.nil),?_⟩;exact⟨rfl,q,rfl,by omega⟩
  have hb:(an x).length=(an y).length+1:=by simp at hb;omega
  obtain⟨rn,XS⟩:∃z,(an x)[(an y).length]? = some z:=⟨_,List.getElem?_eq_getElem (by omega)⟩;refine aA (aj [0,5,6,7] rfl ?_);refine ag (ab 2 rfl (aQ ah rfl rfl rfl rfl rfl (hr) (dr XS) (by omega) (by omega) fun _=>(OP Tryz.underlying121 Tryz.underlying214 rfl fun f1=>(OQ (.inr (.inl rfl)) rfl rfl fun f2=>(ab 1 rfl (OP Tryz.underlying120 Tryz.underlying214 rfl fun f3=>(OQ (.inl rfl) rfl rfl fun f4=>(ab 1 rfl (ae [6,8] ?_)))))))));refine ag (ab 2 rfl (OP Tryz.underlying120 Tryz.underlying214 rfl fun f5=>(OQ (.inr (.inr rfl)) rfl rfl fun f6=>(ac7 Tryz.underlying214 Tryz.underlying120 rfl fun f7 QC=>(ab 1 rfl (ae [9] ?_))))));refine ag (ab 1 rfl (acM (v:=((f7:Int)+2)%18446744073709551616) rfl rfl rfl (Vz rfl rfl ?_)))
  generalize hmn:(if (999999999:Int)<((f7:Int)+2)%18446744073709551616 then(999999999:Int)else((f7:Int)+2)%18446744073709551616)=mn
  have amK:0≤mn∧mn≤999999999:=by rw[←hmn];split <;> omega
  obtain⟨q2,rfl⟩:∃q2:Nat,mn=(q2:Int):=⟨mn.toNat,by omega⟩;refine ab 1 rfl (ae [4] ?_);refine aD ⟨.inr rfl,_,.tmp rfl (.nil),?_⟩;exact⟨rfl,q2,rfl,by omega⟩
end Go.au
