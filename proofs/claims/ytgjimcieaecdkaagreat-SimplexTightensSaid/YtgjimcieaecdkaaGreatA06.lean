/- Part 6 of the proof: Tab4, Tab5, Tab6, Tab7, Eng13, Tab8, Ref1, Ref2, Ref3, Ref4. -/
import Derived.Test.YtgjimcieaecdkaaGreatA05
set_option linter.unusedVariables false
namespace Go.au
open Go.Proofs Num Lp
theorem UQ{u k:Nat}(h:u≤k)(j:Nat):al.gO u (k+1) j=dU (al.gO u k) k 1 j:=by
 unfold dU al.gO
 by_cases e:j=k
 ·rw[if_pos (by omega),if_pos e]
 ·rw[if_neg e]
  by_cases e2:u≤j∧j<k
  ·rw[if_pos (by omega)];simp only[e2,and_self,if_true]
  ·rw[if_neg (by omega)];simp only[e2,if_false]
theorem LZ{H:Heap}{G:TG}{L:TL}{T:al}(h:cB H G L T)(hc:fg H G L T)(hs:(aC (T.c L.w):Int)≤1099511627776):
 Fn Tryz.prog 27 #[.pointer (some ⟨G.g,0,none⟩)] H (LD G.gs H (-(T.c L.w))):=by
 obtain⟨gc,cc,CW,rI,uc⟩:=id hc
 obtain⟨xc,nc,dc,bc,o9,q3,yJ⟩:=uc.rd (dQ (show L.w<L.w+1 by omega))
 have gw:cell H ((⟨G.g,0,none⟩:Addr).add 7)=some (.slice (some ⟨gc,0,none⟩) (L.w+1) cc):=by rw[←rI];exact h.cell rfl
 refine aU (args:=[_]) Tryz.func27 rfl rfl Tryz.ntmps27 rfl rfl fun w0=> ?_;refine ah [0] rfl ?_;refine ae (bG cN rfl (ab [0,2] ?_));refine bT .bN [0,1,2,3,4,5,6,7,8,9,10,11] follows (by kernel_rfl) ?_;refine aa 2 rfl (aX ag rfl rfl rfl (aP ag rfl rfl rfl (gw) (aa 2 rfl (aX ag rfl rfl rfl (aP ag rfl rfl rfl (h.wj) (cQ (vs:=[.int .i64 nc,.int .i64 dc,.pointer bc]) ag rfl rfl rfl rfl o9 rfl (by decide) (by rw[Int.toNat_natCast];exact yJ) (by omega) (by omega) fun _=> ?_))))));refine aI rfl rfl (Fn.fw h.ne (vV q3 hs)) (fun _ _ h=>by first | exact h.le | exact h.1) ?_;rintro v1 H1 ⟨fD,bC,n1,d1,b1,rfl,bJ⟩;obtain⟨ti,aj,ak⟩:=a9;refine aO (.inl ⟨rfl,rfl⟩) rfl rfl rfl aj ak rfl rfl rfl (ab [2] ?_);obtain⟨bU,aK,aL⟩:=a9;refine ar ⟨.inr rfl,_,.agg rfl Tryz.underlying61 aK aL (.nil),?_⟩;exact⟨fD,bC,n1,d1,b1,rfl,bJ⟩
theorem L0{H:Heap}{G:TG}{L:TL}{T:al}(h:cB H G L T)(hw:(L.w:Int)≤1000000):
 Fn Tryz.prog 25 #[.pointer (some ⟨G.g,0,none⟩)] H (wq aT 3 G.gs H (aH (al.gO L.u L.w) L.w)):=by
 have lA:=h.uw;refine aU (args:=[_]) Tryz.func25 rfl rfl Tryz.ntmps25 rfl rfl fun w0=> ?_;refine ah [0] rfl ?_;refine ae (aa 1 rfl (ab [0] ?_));refine ae (aa 2 rfl (aX ag rfl rfl rfl (aP ag rfl rfl rfl (h.wj) (aq rfl rfl (wu h.ne (by omega)) ?_))));rintro v1 H1 ⟨bC,z,xs,rfl,gP,jm⟩;have ee:=gP.tab h;refine aa 1 rfl (ab [0,3] ?_);refine ao (ae (aa 2 rfl (aX ag rfl rfl rfl (aP ag rfl rfl rfl (ee.cell 1 _ rfl) (aa 1 rfl (ab [0,3,4] ?_))))));refine aD (jb (fun(k:Nat)(xs:List Value)=>L.w-k) (fun(k:Nat)(xs:List Value)=>put (put (put (emp) 0 (.val (.pointer (some ⟨G.g,0,none⟩)))) 3 (.val (.slice (some ⟨z,0,none⟩) L.w L.w))) 4 (.val (.int .i64 (k:Int)))) (fun(k:Nat)(xs:List Value) H'=>c7 G.gs H H' z xs (L.w*3) 61∧(∀K:Heap,bF (aT K) 3 xs (aH (al.gO L.u k) L.w))∧L.u≤k∧k≤L.w) L.u xs (⟨gP,fun K=>by rw[il (g:=fun _=>0) (fun j _=>by unfold al.gO;rw[if_neg (by omega)])];exact jm K,Nat.le_refl _,lA⟩) av ?_);rintro k xs H2 ⟨cV,hU,UR,hkw⟩;have hE:=cV.tab h;have ck:=(hU H).len;rw[bV]at ck;refine ao (ae (aa 3 rfl (aX ag rfl rfl rfl ?_)))
 refine aP ag rfl rfl rfl (by have:=hE.cell 0 _ rfl;rwa [iJ]at this) ?_;refine aa 1 rfl (ab [0,3,4,19] ?_);refine az rfl (fun hb=> ?_) (fun hb=> ?_)
 ·
  have hb:k<L.w:=by simpa using hb
  refine aw (ah [0,3,4] rfl ?_);refine ao (aD (aB rfl (aa 2 rfl (aq rfl rfl (ln) ?_))));rintro v3 H3 ⟨e3,rfl⟩;rw[e3];obtain⟨ti,aj,ak⟩:=a9;refine dE (.inl rfl) ag rfl rfl rfl (by omega) (by omega) (cV.a6) rfl (by show 0+L.w*3≤xs.length;omega) aj ak (fun _=>rfl) rfl rfl rfl fun _=> ?_;refine ay (ah [0,3,4] rfl ?_);refine aB rfl (aa 1 rfl (aJ rfl rfl ⟨by omega,by omega⟩ (aa 1 rfl (ay ?_))));exact⟨k+1,aA xs (k*3) [.int .i64 1,.int .i64 1,.pointer none],by omega,av,cV.set j4,fun K=>by rw[il (g:=dU (al.gO L.u k) k 1) (fun j _=>UQ UR j)];exact m8 (hU K) hb (ll K (n:=1) (by decide) (by decide)),by omega,by omega⟩
 ·
  have hb:L.w≤k:=by simpa using hb
  obtain rfl:k=L.w:=by omega
  refine bA (ah [3] rfl ?_);refine ae (aa 2 rfl (ab [2] ?_));refine ar ⟨.inr rfl,_,.tmp rfl (.nil),?_⟩;exact⟨cV.done.1,cV.hle,some ⟨z,0,none⟩,L.w,xs,by rw[bV];rfl,by rw[bV];exact Nat.le_refl _,cV.rd,hU _⟩
theorem US{H:Heap}{G:TG}{L:TL}{T0:al}{N:Nat}{J:Nat→al→Prop}(h:cB H G L T0)(hc:fg H G L T0)(hJ:J 0 T0)(L1:∀k S,J k S→k<S.m→(S.B k<L.u∨∀j,j<L.u→S.A k j=0)→J (k+1) S)
 (UT:∀k S s,J k S→k<S.m→L.u≤S.B k→s<L.u→S.A k s≠0→J (k+1) (S.bM k s)) (hinv:∀k S,J k S→Sz N S∧S.m=T0.m∧S.n=T0.n) (hN:(N:Int)≤137438953472) (hw:(L.w:Int)≤1000000) (hm:(T0.m:Int)≤1000000):
 Fn Tryz.prog 30 #[.pointer (some ⟨G.g,0,none⟩)] H (fun _ H'=>∃T,J T0.m T∧cB H' G L T∧fg H' G L T∧Heap.le (rem H G.gs) (rem H' G.gs)):=by
 have lA:=h.uw
 obtain⟨Ab,cb,iw,_⟩:=h.self.bv
 have gG:cell H ((⟨G.g,0,none⟩:Addr).add 8)=some (.slice Ab T0.m cb):=by rw[←iw];exact h.cell rfl
 refine aU (args:=[_]) Tryz.func30 rfl rfl Tryz.ntmps30 rfl rfl fun w0=> ?_;refine ah [0] rfl ?_;refine ae (aa 2 rfl (aX ag rfl rfl rfl (aP ag rfl rfl rfl (gG) (aa 2 rfl (ab [0,8,9,10] ?_)))));refine aD (jb (fun(k:Nat)(T:al)=>T0.m-k) (fun(k:Nat)(T:al)=>put (put (put (put (emp) 0 (.val (.pointer (some ⟨G.g,0,none⟩)))) 8 (.val (.slice Ab T0.m cb))) 9 (.val (.int .i64 (T0.m:Int)))) 10 (.val (.int .i64 (k:Int)))) (fun(k:Nat)(T:al) H'=>cB H' G L T∧fg H' G L T∧J k T∧Heap.le (rem H G.gs) (rem H' G.gs)∧k≤T0.m) 0 T0 (⟨h,hc,hJ,.refl _,Nat.zero_le _⟩) av ?_);rintro k T H1 ⟨h1,jC,yR,eL,fD⟩;obtain⟨bZ,LS,Gu⟩:=hinv k T yR;obtain⟨A2,c2,yS,yj⟩:=h1.self.bv;rw[iw]at yS
 obtain⟨rfl,-,rfl⟩:Ab=A2∧T0.m=T.m∧cb=c2:=by simpa using yS
 refine ae (aa 1 rfl (ab [0,8,9,10,11] ?_));refine ao (az rfl (fun hb=> ?_) (fun hb=> ?_))
 ·
  have iv:k<T0.m:=by simpa using hb
  have ue:k<T.m:=by omega
  obtain⟨pk,mb⟩:=h1.get ue;refine aw (ah [0,8,9,10] rfl ?_);refine ao (aD (ae (aa 1 rfl (a5 ag rfl rfl rfl rfl rfl (yj) (by rw[Int.toNat_natCast];exact ql ue) (by omega) (by omega) fun _=> ?_))));refine aa 2 rfl (ab [0,2,3,8,9,10] ?_);refine ao (ae (aa 3 rfl (aX ag rfl rfl rfl (aP ag rfl rfl rfl (h1.cell rfl) (aa 1 rfl (ab [0,2,8,9,10,20] ?_))))));refine az rfl (fun hb=> ?_) (fun hb=> ?_)
  ·
   have hb:T.B k<L.u:=by simp at hb;omega
   refine bA (ah [0,8,9,10] rfl ?_);refine aB rfl (aJ rfl rfl ⟨by omega,by omega⟩ (aa 1 rfl (ay ?_)));exact⟨k+1,T,by omega,av,h1,jC,L1 k T yR ue (.inl hb),eL,by omega⟩
  ·
   have UU:L.u≤T.B k:=by simp at hb;omega
   refine aw (ah [0,2,8,9,10] rfl ?_);refine ae (aa 2 rfl (aX ag rfl rfl rfl (aP ag rfl rfl rfl (h1.cell rfl) (aa 1 rfl (ab [0,2,8,9,10,24,25] ?_)))));refine aD (gm (fun(j:Nat)=>L.u-j) (fun(j:Nat)=>put (put (put (put (put (put (put (emp) 0 (.val (.pointer (some ⟨G.g,0,none⟩)))) 2 (.val (.int .i64 (k:Int)))) 8 (.val (.slice Ab T0.m cb))) 9 (.val (.int .i64 (T0.m:Int)))) 10 (.val (.int .i64 (k:Int)))) 24 (.val (.int .i64 (L.u:Int)))) 25 (.val (.int .i64 (j:Int)))) (fun(j:Nat) H'=>Kept G.gs H1 H'∧j≤L.u∧∀i,i<j→T.A k i=0) 0 (⟨.refl _ _,Nat.zero_le _,fun i hi=>by omega⟩) av ?_);rintro j H3 ⟨dh,hju,yT⟩;have h3:=h1.kept dh;refine ae (aa 1 rfl (ab [0,2,8,9,10,24,25,26] ?_));refine ao (az rfl (fun hb=> ?_) (fun hb=> ?_))
   ·
    have L2:j<L.u:=by simpa using hb
    obtain⟨L3,yU,fa⟩:=h3.rows;obtain⟨xj,nj,dj,bj,UW,UX,UY⟩:=(h3.row k pk mb).rd (dQ (show j<L.w+1 by omega));have hsj:=bZ.A k ue j (by rw[h1.n];omega);refine aw (ah [0,2,8,9,10,24,25] rfl ?_);refine ao (aD (ae (aa 2 rfl (ab [0,2,4,8,9,10,24,25] ?_))));refine ae (aa 2 rfl (aX ag rfl rfl rfl (aP ag rfl rfl rfl (h3.cell rfl) (aa 1 rfl (a5 ag rfl rfl rfl rfl rfl (yU.le (bE _ _)) (by rw[Int.toNat_natCast];exact fa k pk mb) (by omega) (by omega) fun _=> ?_)))));refine aa 1 rfl (cQ (vs:=[.int .i64 nj,.int .i64 dj,.pointer bj]) ag rfl rfl rfl rfl UW rfl (by decide) (by rw[Int.toNat_natCast];exact UY) (by omega) (by omega) fun _=> ?_);refine aq rfl rfl (Fn.m0 h3.ne (fq UX (by omega))) ?_;rintro v4 H4 ⟨dM,dr,rfl⟩;have h4:=h3.kept dM;refine aa 1 rfl (ab [0,2,4,8,9,10,24,25,39] ?_);refine az rfl (fun hb=> ?_) (fun hb=> ?_)
    ·
     have L4:T.A k j≠0:=fun e=>by rw[e]at hb;simp[eE]at hb
     have L5:=UT k T j yR ue UU L2 L4;obtain⟨UZ,_,_⟩:=hinv _ _ L5;refine ae (aa 3 rfl (aq rfl rfl (LM (N:=N) h4 ((jC.kept dh).kept dM) ue (by omega) L4 bZ UZ (by omega) hw (by omega)) ?_));rintro v5 H5 ⟨h5,yV,eR⟩;refine ab [0,8,9,10] ?_;refine bA (ah [0,8,9,10] rfl ?_);refine aB rfl (aJ rfl rfl ⟨by omega,by omega⟩ (aa 1 rfl (ay ?_)));exact⟨k+1,T.bM k j,by omega,av,h5,yV,L5,(eL.trans (dh.trans dM).le).trans eR,by omega⟩
    have hb:T.A k j=0:=tW (by simpa using hb);refine aw (ah [0,2,8,9,10,24,25] rfl ?_);refine aB rfl (aJ rfl rfl ⟨by omega,by omega⟩ (aa 1 rfl (ay ?_)));exact⟨j+1,by omega,av,dh.trans dM,by omega,fun i hi=>by by_cases e:i=j;(rw[e];exact hb);exact yT i (by omega)⟩
   have hb:L.u≤j:=by simpa using hb
   obtain rfl:j=L.u:=by omega
   refine bA (ah [0,8,9,10] rfl ?_);refine aB rfl (aJ rfl rfl ⟨by omega,by omega⟩ (aa 1 rfl (ay ?_)));exact⟨k+1,T,by omega,av,h3,jC.kept dh,L1 k T yR ue (.inr yT),eL.trans dh.le,by omega⟩
 ·
  have hb:T0.m≤k:=by simpa using hb
  obtain rfl:k=T0.m:=by omega
  refine bA ?_;refine⟨.inl rfl,_,.nil,?_⟩;exact⟨T,yR,h1,jC,eL⟩
end Go.au
namespace Go.au
open Go.Proofs Num Lp
def TL.pF(L:TL)(j:Nat):Nat:=L.plus.getD j 0
def TL.mZ(L:TL)(j:Nat):Int:=L.minus.getD j (-1)
def TL.mF(L:TL)(j:Nat):Option Nat:=if 0≤L.mZ j then some (L.mZ j).toNat else none
def TL.uF(L:TL)(i:Nat):Nat:=L.gF.getD i 0
def TL.sF(L:TL)(i:Nat):Rat:=fn L.gu i
structure TL.Ok(L:TL)(n m:Nat):Prop where
 C1:L.plus.length=n
 C2:L.minus.length=n
 Gz:L.gF.length=m
 GA:L.gu.length=m
 pw:∀j,j<n→L.pF j<L.w
 mw:∀j,j<n→L.mZ j<L.w
 uw:∀i,i<m→L.uF i<L.w
 s1:∀i,i<m→aC (L.sF i)≤1
section
variable {L:TL} {n m:Nat}
theorem TL.Ok.p(h:L.Ok n m){j:Nat}(hj:j<n):L.plus[j]? = some (L.pF j):=by
 have:j<L.plus.length:=by rw[h.C1];exact hj
 simp[TL.pF,List.getD,List.getElem?_eq_getElem this]
theorem TL.Ok.mi(h:L.Ok n m){j:Nat}(hj:j<n):L.minus[j]? = some (L.mZ j):=by
 have:j<L.minus.length:=by rw[h.C2];exact hj
 simp[TL.mZ,List.getD,List.getElem?_eq_getElem this]
theorem TL.Ok.u(h:L.Ok n m){i:Nat}(hi:i<m):L.gF[i]? = some (L.uF i):=by
 have:i<L.gF.length:=by rw[h.Gz];exact hi
 simp[TL.uF,List.getD,List.getElem?_eq_getElem this]
theorem TL.Ok.s(h:L.Ok n m){i:Nat}(hi:i<m):L.gu[i]? = some (L.sF i):=by
 have:i<L.gu.length:=by rw[h.GA];exact hi
 simp[TL.sF,fn,List.getD,List.getElem?_eq_getElem this]
end
theorem U0{α:Type}(l:List α)(k:Nat)(a b:α):(l.set k a).set k b=l.set k b:=by simp
theorem GB{K:Heap}{xs vs:List Value}{l:List (Option Rat)}{k:Nat}{q:Rat}(h:bF (gq aT K) 3 xs l)(hk:k<l.length)(hv:aT K vs q):bF (gq aT K) 3 (aA xs (k*3) vs) (l.set k (some q)):=h.set hk (show gq aT K vs (some q)from hv) hv.len
theorem L6{K:Heap}{xs:List Value}{f:Nat→Rat}{n:Nat}(h:bF (gq aT K) 3 xs (fill (aH f n) n)):bF (aT K) 3 xs (aH f n):=CG (by rw[bV];exact h)
theorem L7{H:Heap}{G:TG}{L:TL}{T:al}{n m N:Nat}{v:Value}{f:Nat→Rat}(h:cB H G L T)(hL:L.Ok n m)(hv:aM aT 3 (rem H G.gs) v (aH f L.w))(hf:∀j,j<L.w→aC (f j)≤N)(hN:(N:Int)≤274877906944)(hw:(L.w:Int)≤1000000)(hn:(n:Int)≤1000000):
 Fn Tryz.prog 68 #[.pointer (some ⟨G.g,0,none⟩),v] H (wq fe 3 G.gs H (aH (cL.vec L.pF L.mF f) n)):=by
 obtain⟨Av,cv,xv,rfl,jI,oB⟩:=hv.num
 rw[bV]
 have yW:=h.self
 obtain⟨Ap,cp,xp,pc,eH,ub⟩:=yW.plus.one
 obtain⟨Am,cm,xm,pd,mf,yX⟩:=yW.minus.one
 rw[hL.C1]at pc
 rw[hL.C2]at pd
 obtain⟨l,hl⟩:∃l,l=cL.vec L.pF L.mF f:=⟨_,rfl⟩
 have aW:cell H ((⟨G.g,0,none⟩:Addr).add 2)=some (.slice Ap n cp):=by rw[←pc];exact h.cell rfl
 refine aU (args:=[_,_]) Tryz.func68 rfl rfl Tryz.ntmps68 rfl rfl fun w0=> ?_;refine ah [0,1] rfl ?_;refine ae (aa 1 rfl (ab [0,1] ?_));refine ae (aa 2 rfl (aX ag rfl rfl rfl (aP ag rfl rfl rfl (aW) (aa 1 rfl (ja Tryz.underlying56 cN rfl rfl rfl (by omega) (by omega) (by omega) (by omega) ?_)))));intro z qn;rw[show ((n:Int)).toNat=n from by omega];have gP:c7 G.gs H _ z (dg [.int .i64 0,.int .i64 0,.pointer none] (n*3)) (n*3) 61:=c7.new h.ne qn
 have jm:bF (gq aT (rem (ins H z ⟨dg [.int .i64 0,.int .i64 0,.pointer none] (n*3),n*3,61,true⟩) (z::G.gs))) 3 (dg [.int .i64 0,.int .i64 0,.pointer none] (n*3)) (fill (aH l n) 0):=by have:=yA (P:=aT) (H:=rem (ins H z ⟨dg [.int .i64 0,.int .i64 0,.pointer none] (n*3),n*3,61,true⟩) (z::G.gs)) (zs:=[.int .i64 0,.int .i64 0,.pointer none]) (sz:=3) (by rfl) (aH l n);rwa [bV]at this
 refine aa 1 rfl (ab [0,1,5] ?_);refine ao (ae (aa 3 rfl (ab [0,1,5,14,15] ?_)));refine aD (jb (fun(k:Nat)(xs:List Value)=>n-k) (fun(k:Nat)(xs:List Value)=>put (put (put (put (put (emp) 0 (.val (.pointer (some ⟨G.g,0,none⟩)))) 1 (.val (.slice Av L.w cv))) 5 (.val (.slice (some ⟨z,0,none⟩) n n))) 14 (.val (.int .i64 (n:Int)))) 15 (.val (.int .i64 (k:Int)))) (fun(k:Nat)(xs:List Value) H'=>c7 G.gs H H' z xs (n*3) 61∧bF (gq aT (rem H' (z::G.gs))) 3 xs (fill (aH l n) k)∧k≤n) 0 _ (⟨gP,jm,Nat.zero_le _⟩) av ?_);rintro k xs H2 ⟨cV,hU,gj⟩;have jE:=wb (l:=aH l n) (k:=k) (by rw[bV];exact gj);rw[bV]at jE;have ck:=hU.len;rw[jE]at ck;have hE:=cV.tab h;have jA:=cV.hle;refine ae (aa 1 rfl (ab [0,1,5,14,15,16] ?_));refine ao (az rfl (fun hb=> ?_) (fun hb=> ?_))
 ·
  have ea:k<n:=by simpa using hb
  obtain⟨up,yY,yZ⟩:=ub k _ (hL.p ea);obtain⟨um,rJ,y3⟩:=yX k _ (hL.mi ea)
  cases yZ
  cases y3
  have qQ:=hL.pw k ea;have L8:=hL.mw k ea;obtain⟨n1,d1,b1,cM,di⟩:=oB _ _ (dQ qQ);have ie:=hf _ qQ;have U1:=eH.le jA;have aaq:=mf.le jA;have wv:=(jI.le cV.le).le (bE _ _)
  have U2:cell H2 ((⟨G.g,0,none⟩:Addr).add 2)=some (.slice Ap n cp):=by rw[←pc];exact hE.cell 2 _ rfl
  refine aw (ah [0,1,5,14,15] rfl ?_);refine ao (aD (ae (aa 2 rfl (ab [0,1,5,6,14,15] ?_))));refine ae (aa 5 rfl (aX ag rfl rfl rfl (aP ag rfl rfl rfl (U2) (aa 1 rfl (a5 ag rfl rfl rfl rfl rfl (U1) (by rw[Int.toNat_natCast];exact yY) (by omega) (by omega) fun _=> ?_)))));refine cQ (vs:=[.int .i64 n1,.int .i64 d1,.pointer b1]) ag rfl rfl rfl rfl wv rfl (by decide) (by rw[Int.toNat_natCast];exact di) (by omega) (by omega) fun _=> ?_;obtain⟨ti,aj,ak⟩:=a9;refine dE (.inl rfl) ag rfl rfl rfl (by omega) (by omega) (cV.a6) rfl (by show 0+n*3≤xs.length;omega) aj ak (fun _=>rfl) rfl rfl rfl fun _=> ?_;refine ab [0,1,5,6,14,15] ?_;have eN:c7 G.gs H _ z (aA xs (k*3) [.int .i64 n1,.int .i64 d1,.pointer b1]) (n*3) 61:=cV.set (j4 (k:=k) (sz:=3))
  have mg:bF (gq aT (rem (ins H2 z {(⟨xs,n*3,61,true⟩:aG)with xs:=aA xs (0+k*3) [.int .i64 n1,.int .i64 d1,.pointer b1]}) (z::G.gs))) 3 (aA xs (k*3) [.int .i64 n1,.int .i64 d1,.pointer b1]) ((fill (aH l n) k).set k (some (f (L.pF k)))):=by
   rw[bY _ (List.mem_cons_self ..)];exact GB hU (by rw[jE];exact ea) (cM.le cV.le)
  generalize U3:ins H2 z {(⟨xs,n*3,61,true⟩:aG)with xs:=aA xs (0+k*3) [.int .i64 n1,.int .i64 d1,.pointer b1]}=H3 at eN mg
  have U4:ins H2 z {(⟨xs,n*3,61,true⟩:aG)with xs:=aA xs (0+((k:Int)).toNat*3) [.int .i64 n1,.int .i64 d1,.pointer b1]}=H3:=U3;rw[show ∀e:aG,e = {(⟨xs,n*3,61,true⟩:aG)with xs:=aA xs (0+((k:Int)).toNat*3) [.int .i64 n1,.int .i64 d1,.pointer b1]}→ins H2 z e=H3 from fun e he=>by rw[he];exact U4]
  rotate_left
  ·rfl
  have Fo:=eN.tab h;have L9:=mf.le eN.hle;have U5:=(jI.le eN.le).le (bE _ _)
  have dH:cell H3 ((⟨G.g,0,none⟩:Addr).add 3)=some (.slice Am n cm):=by rw[←pd];exact Fo.cell 3 _ rfl
  refine ae (aa 2 rfl (aX ag rfl rfl rfl (aP ag rfl rfl rfl (dH) (aa 1 rfl (a5 ag rfl rfl rfl rfl rfl (L9) (by rw[Int.toNat_natCast];exact rJ) (by omega) (by omega) fun _=> ?_)))));refine aa 1 rfl (ab [0,1,5,6,14,15,38] ?_);refine az rfl (fun hb=> ?_) (fun hb=> ?_)
  ·
   have hb:0≤L.mZ k:=by simpa using hb
   obtain⟨n2,d2,b2,fp,dL⟩:=oB _ _ (dQ (show (L.mZ k).toNat<L.w by omega));have gW:=hf (L.mZ k).toNat (by omega)
   have fa:∀(j:Nat)(u:Value),[.int .i64 n1,.int .i64 d1,.pointer b1][j]? = some u→(aA xs (k*3) [.int .i64 n1,.int .i64 d1,.pointer b1])[k*3+j]? = some u:=fun j u hu=>by
    have hj:=(List.getElem?_eq_some_iff.1 hu).1
    simp only[List.length_cons,List.length_nil]at hj
    rw[FL _ _ _ _ (by simp only[List.length_cons,List.length_nil];omega),if_pos (by simp only[List.length_cons,List.length_nil];omega),Nat.add_sub_cancel_left];exact hu
   refine fk .fC [0,1,2,3,4,5,6,7,8,9,10,11,12,13,14,15,16,17,18] follows (by kernel_rfl) ?_;refine aa 4 rfl (cQ (vs:=[.int .i64 n1,.int .i64 d1,.pointer b1]) ag rfl rfl rfl rfl (nY eN.a6) rfl (by decide) (by rw[Int.toNat_natCast];exact fa) (by omega) (by omega) fun _=> ?_);refine aa 3 rfl (aX ag rfl rfl rfl (aP ag rfl rfl rfl (dH) (aa 1 rfl (a5 ag rfl rfl rfl rfl rfl (L9) (by rw[Int.toNat_natCast];exact rJ) (by omega) (by omega) fun _=> ?_))));refine cQ (vs:=[.int .i64 n2,.int .i64 d2,.pointer b2]) ag rfl rfl rfl rfl U5 rfl (by decide) dL (by omega) (by omega) fun _=>(aI rfl rfl (Fn.fw (eN.ne h.ne) (o3 (N:=N) (cM.le eN.le) (fp.le eN.le) ie gW (by omega))) (fun _ _ h=>by first | exact h.le | exact h.1) ?_);rintro v4 H4 ⟨dM,dr,n4,d4,b4,rfl,cE⟩;have kM:=eN.kept dM
   have aar:(aA xs (k*3) [.int .i64 n1,.int .i64 d1,.pointer b1]).length=n*3:=by rw[xF];exact ck
   obtain⟨ti,aj,ak⟩:=a9;refine dE (.inr rfl) ag rfl rfl rfl (by omega) (by omega) (kM.a6) rfl (by show 0+n*3≤(aA xs (k*3) [.int .i64 n1,.int .i64 d1,.pointer b1]).length;omega) aj ak (fun _=>rfl) rfl rfl rfl fun _=> ?_;refine ay (ah [0,1,5,14,15] rfl ?_);refine aB rfl (aJ rfl rfl ⟨by omega,by omega⟩ (aa 1 rfl (ay ?_)));exact⟨k+1,aA (aA xs (k*3) [.int .i64 n1,.int .i64 d1,.pointer b1]) (k*3) [.int .i64 n4,.int .i64 d4,.pointer b4],by omega,av,kM.set j4,by rw[bY _ (List.mem_cons_self ..),←wc (a:=f (L.pF k)-f (L.mZ k).toNat) (by rw[dQ ea,hl];unfold cL.vec TL.mF;rw[if_pos hb];rfl),←U0 (fill (aH l n) k) k (some (f (L.pF k)))];exact GB (mg.mono fun vs a=>gq.up dT _ _ vs a dM.le) (by rw[List.length_set,jE];exact ea) cE,by omega⟩
  ·
   have hb:¬0≤L.mZ k:=by simpa using hb
   refine aw (ah [0,1,5,14,15] rfl ?_);refine aB rfl (aJ rfl rfl ⟨by omega,by omega⟩ (aa 1 rfl (ay ?_)));exact⟨k+1,aA xs (k*3) [.int .i64 n1,.int .i64 d1,.pointer b1],by omega,av,eN,by rw[←wc (a:=f (L.pF k)) (by rw[dQ ea,hl];unfold cL.vec TL.mF;rw[if_neg hb];simp only[eU];rw[show f (L.pF k)-0=f (L.pF k) by grind])];exact mg,by omega⟩
 ·
  have hb:n≤k:=by simpa using hb
  obtain rfl:k=n:=by omega
  have iO:=cV.done;refine bA (ah [5] rfl ?_);refine ae (vr 1 ?_)
  refine aq rfl rfl (Fn.C0 (iO.1.ne h.ne) (Lu (l:=aH l k) ⟨some ⟨z,0,none⟩,k,xs,by rw[bV],by rw[bV];exact Nat.le_refl _,cV.rd,(L6 hU).mono fun vs a=>dT _ _ vs a iO.2⟩ (fun q hq=>by
  obtain⟨j,hj,rfl⟩:=List.mem_map.1 hq;have hj:=List.mem_range.1 hj;rw[hl];have h1:=hf _ (hL.pw j hj);have h2:=hL.mw j hj
  unfold cL.vec TL.mF
  split
  ·
   have h3:=hf (L.mZ j).toNat (by omega);have h4:=l5 (f (L.pF j)) (f (L.mZ j).toNat)
   simp only[eU];omega
  ·
   have h4:=l5 (f (L.pF j)) 0;rw[Lr]at h4
   simp only[eU];omega) (by rw[bV];omega))) ?_
  rintro v9 H9 ⟨ix,eo,kN⟩;refine aa 1 rfl (ab [4] ?_);refine ar ⟨.inr rfl,_,.tmp rfl (.nil),?_⟩;exact⟨iO.1.trans ix,cV.hle.trans eo,by rw[←hl];exact kN⟩
end Go.au
namespace Go.au
open Go.Proofs Num Lp
def rK(T:al)(k j:Nat):Rat:=aN k (fun i=>if T.B i=j then T.A i T.n else 0)
def ug(T:al)(s k j:Nat):Rat:=(if j=s then 1 else 0)-aN k (fun i=>if T.B i=j then T.A i s else 0)
theorem U6{T:al}(hW:T.WF){k:Nat}(hk:k<T.m)(j:Nat):rK T (k+1) j=dU (rK T k) (T.B k) (T.A k T.n) j:=by
 unfold rK dU
 rw[eG]
 by_cases e:j=T.B k
 ·rw[if_pos e,if_pos e.symm,kI]
  ·grind
  ·intro i hi
   rw[if_neg (fun e'=>by have:=hW.inj (by omega) hk (e'.trans e);omega)]
 ·rw[if_neg e,if_neg (fun e'=>e e'.symm)];grind
theorem U7{T:al}{j:Nat}(hj:j<T.n):rK T T.m j=T.pt j:=by
 unfold rK al.pt
 rw[if_neg (by omega)]
theorem U8{T:al}(hW:T.WF){s k:Nat}(hs:∀i,i<T.m→T.B i≠s)(hk:k<T.m)(j:Nat):ug T s (k+1) j=dU (ug T s k) (T.B k) (-(T.A k s)) j:=by
 unfold ug dU
 rw[eG]
 by_cases e:j=T.B k
 ·rw[if_pos e,if_pos e.symm,kI,if_neg (fun e'=>hs k hk (by rw[←e,e']))]
  ·grind
  ·intro i hi
   rw[if_neg (fun e'=>by have:=hW.inj (by omega) hk (e'.trans e);omega)]
 ·rw[if_neg e]
  have e2:(if T.B k=j then T.A k s else 0)=0:=if_neg (fun e'=>e e'.symm)
  rw[e2];grind
theorem Ma{H:Heap}{G:TG}{L:TL}{T:al}{n m N:Nat}(h:cB H G L T)(hW:T.WF)(hL:L.Ok n m)(hz:∀j,j<L.w→aC (T.pt j)≤N)(hN:(N:Int)≤274877906944)(hw:(L.w:Int)≤1000000)(hn:(n:Int)≤1000000)(hm:(T.m:Int)≤1000000):
 Fn Tryz.prog 34 #[.pointer (some ⟨G.g,0,none⟩)] H (wq fe 3 G.gs H (aH (cL.vec L.pF L.mF T.pt) n)):=by
 obtain⟨Ab,cb,iw,_⟩:=h.self.bv;refine aU (args:=[_]) Tryz.func34 rfl rfl Tryz.ntmps34 rfl rfl fun w0=> ?_;refine ah [0] rfl ?_;refine ae (aa 1 rfl (ab [0] ?_));refine ae (aa 2 rfl (aX ag rfl rfl rfl (aP ag rfl rfl rfl (h.wj) (aq rfl rfl (wu h.ne (by omega)) ?_))));rintro v1 H1 ⟨bC,z,xs,rfl,gP,jm⟩;have ee:=gP.tab h;refine aa 1 rfl (ab [0,3] ?_);refine ao (ae (aa 2 rfl (aX ag rfl rfl rfl (aP ag rfl rfl rfl (show cell H1 _=some (.slice Ab T.m cb)from by rw[←iw];exact ee.cell 8 _ rfl) ?_))));refine aa 2 rfl (ab [0,3,14,15,16] ?_);refine aD (jb (fun(k:Nat)(xs:List Value)=>T.m-k) (fun(k:Nat)(xs:List Value)=>put (put (put (put (put (emp) 0 (.val (.pointer (some ⟨G.g,0,none⟩)))) 3 (.val (.slice (some ⟨z,0,none⟩) L.w L.w))) 14 (.val (.slice Ab T.m cb))) 15 (.val (.int .i64 (T.m:Int)))) 16 (.val (.int .i64 (k:Int)))) (fun(k:Nat)(xs:List Value) H'=>c7 G.gs H H' z xs (L.w*3) 61∧bF (aT (rem H' (z::G.gs))) 3 xs (aH (rK T k) L.w)∧k≤T.m) 0 xs (⟨gP,by rw[il (f:=rK T 0) (g:=fun _=>0) (fun j _=>rfl)];exact jm _,Nat.zero_le _⟩) av ?_);rintro k xs H2 ⟨cV,hU,gj⟩;have hE:=cV.tab h;have ck:=hU.len;rw[bV]at ck
 refine ae (aa 1 rfl (ab [0,3,14,15,16,17] ?_));refine ao (az rfl (fun hb=> ?_) (fun hb=> ?_))
 ·
  have iv:k<T.m:=by simpa using hb
  obtain⟨L3,yU,fa⟩:=hE.rows;obtain⟨pk,mb,rD⟩:=fa k iv;have y4:=hW.lt k iv;rw[h.n]at y4;obtain⟨A3,c3,y5,GC⟩:=hE.bv;rw[iw]at y5
  obtain⟨rfl,-,rfl⟩:Ab=A3∧T.m=T.m∧cb=c3:=by simpa using y5
  have gg:=hE.cell 6 _ rfl;obtain⟨xw,n1,d1,b1,yM,cM,yN⟩:=rD.rd (dQ (show L.w<L.w+1 by omega));refine aw (ah [0,3,14,15,16] rfl ?_);refine ao (aD (ae (aa 1 rfl (a5 ag rfl rfl rfl rfl rfl (GC) (by rw[Int.toNat_natCast];exact ql iv) (by omega) (by omega) fun _=> ?_))));refine aa 2 rfl (ab [0,3,4,5,14,15,16] ?_);refine fk .fC [0,1,2,3,4,5,6,7,8,9,10,11,12,13,14,15,16] follows (by kernel_rfl) ?_;refine aa 4 rfl (aX ag rfl rfl rfl (aP ag rfl rfl rfl (gg) (aa 1 rfl (a5 ag rfl rfl rfl rfl rfl (yU) (by rw[Int.toNat_natCast];exact mb) (by omega) (by omega) fun _=> ?_))));refine aa 2 rfl (aX ag rfl rfl rfl (aP ag rfl rfl rfl (by have:=hE.cell 0 _ rfl;rwa [iJ]at this) ?_));refine cQ (vs:=[.int .i64 n1,.int .i64 d1,.pointer b1]) ag rfl rfl rfl rfl yM rfl (by decide) (by rw[Int.toNat_natCast];exact yN) (by omega) (by omega) fun _=> ?_;obtain⟨ti,aj,ak⟩:=a9;refine dE (.inr rfl) ag rfl rfl rfl (by omega) (by omega) (cV.a6) rfl (by show 0+L.w*3≤xs.length;omega) aj ak (fun _=>rfl) rfl rfl rfl fun _=> ?_;refine ay (ah [0,3,14,15,16] rfl ?_);refine aB rfl (aJ rfl rfl ⟨by omega,by omega⟩ ?_)
  refine aa 1 rfl (ay ?_);exact⟨k+1,aA xs (T.B k*3) [.int .i64 n1,.int .i64 d1,.pointer b1],by omega,av,cV.set (by rw[Int.toNat_natCast];exact j4),by rw[bY _ (List.mem_cons_self ..),il (g:=dU (rK T k) (T.B k) (T.A k T.n)) (fun j _=>U6 hW iv j),h.n];exact m8 hU y4 cM,by omega⟩
 ·
  have hb:T.m≤k:=by simpa using hb
  obtain rfl:k=T.m:=by omega
  have iO:=cV.done;rw[il (g:=T.pt) (fun j hj=>U7 (by rw[h.n];exact hj))]at hU;refine bA (ah [0,3] rfl ?_);refine ae (aa 2 rfl (aq rfl rfl (L7 (h.kept iO.1) hL (v:= .slice (some ⟨z,0,none⟩) L.w L.w) (f:=T.pt) ⟨some ⟨z,0,none⟩,L.w,xs,by rw[bV],by rw[bV];exact Nat.le_refl _,cV.rd,hU.mono fun vs a=>dT _ _ vs a iO.2⟩ hz hN hw hn) ?_));rintro v9 H9 ⟨ix,eo,kN⟩;refine aa 1 rfl (ab [2] ?_);refine ar ⟨.inr rfl,_,.tmp rfl (.nil),?_⟩;exact⟨iO.1.trans ix,cV.hle.trans eo,kN⟩
theorem U9{H:Heap}{G:TG}{L:TL}{T:al}{n m N s:Nat}(h:cB H G L T)(hW:T.WF)(hL:L.Ok n m)(hs:s<L.w)(m9:∀i,i<T.m→T.B i≠s)(bZ:∀i,i<T.m→aC (T.A i s)≤N)(hz:∀j,j<L.w→aC (T.dir s j)≤N)(hN:(N:Int)≤274877906944)(hw:(L.w:Int)≤1000000)(hn:(n:Int)≤1000000)(hm:(T.m:Int)≤1000000):
 Fn Tryz.prog 35 #[.pointer (some ⟨G.g,0,none⟩),.int .i64 (s:Int)] H (wq fe 3 G.gs H (aH (cL.vec L.pF L.mF (T.dir s)) n)):=by
 obtain⟨Ab,cb,iw,_⟩:=h.self.bv;refine aU (args:=[_,_]) Tryz.func35 rfl rfl Tryz.ntmps35 rfl rfl fun w0=> ?_;refine ah [0,1] rfl ?_;refine ae (aa 1 rfl (ab [0,1] ?_));refine ae (aa 2 rfl (aX ag rfl rfl rfl (aP ag rfl rfl rfl (h.wj) (aq rfl rfl (wu h.ne (by omega)) ?_))));rintro v1 H1 ⟨bC,z,xs,rfl,gP,jm⟩;have Va:=(jm H).len;rw[bV]at Va;refine aa 1 rfl (ab [0,1,5] ?_);refine ae (aa 2 rfl (aq rfl rfl (ln) ?_));rintro v3 H3 ⟨e3,rfl⟩;rw[e3];obtain⟨ti,aj,ak⟩:=a9;refine dE (.inl rfl) ag rfl rfl rfl (by omega) (by omega) (gP.a6) rfl (by show 0+L.w*3≤xs.length;omega) aj ak (fun _=>rfl) rfl rfl rfl fun _=> ?_;refine ab [0,1,5] ?_;have rL:c7 G.gs H (ins H1 z {(⟨xs,L.w*3,61,true⟩:aG)with xs:=aA xs (0+((s:Int)).toNat*3) [.int .i64 1,.int .i64 1,.pointer none]}) z (aA xs (s*3) [.int .i64 1,.int .i64 1,.pointer none]) (L.w*3) 61:=gP.set (by rw[Int.toNat_natCast];exact j4);have ee:=rL.tab h;refine ao (ae (aa 2 rfl (aX ag rfl rfl rfl (aP ag rfl rfl rfl (show cell _ _=some (.slice Ab T.m cb)from by rw[←iw];exact ee.cell 8 _ rfl) ?_))));refine aa 2 rfl (ab [0,1,5,20,21,22] ?_)
 refine aD (jb (fun(k:Nat)(xs:List Value)=>T.m-k) (fun(k:Nat)(xs:List Value)=>put (put (put (put (put (put (emp) 0 (.val (.pointer (some ⟨G.g,0,none⟩)))) 1 (.val (.int .i64 (s:Int)))) 5 (.val (.slice (some ⟨z,0,none⟩) L.w L.w))) 20 (.val (.slice Ab T.m cb))) 21 (.val (.int .i64 (T.m:Int)))) 22 (.val (.int .i64 (k:Int)))) (fun(k:Nat)(xs:List Value) H'=>c7 G.gs H H' z xs (L.w*3) 61∧bF (aT (rem H' (z::G.gs))) 3 xs (aH (ug T s k) L.w)∧k≤T.m) 0 (aA xs (s*3) [.int .i64 1,.int .i64 1,.pointer none]) (⟨rL,by rw[il (g:=dU (fun _=>0) s 1) (fun j _=>by unfold ug dU;rw[vW];split <;> grind)];exact m8 (jm _) hs (ll _ (n:=1) (by decide) (by decide)),Nat.zero_le _⟩) av ?_);rintro k xs H2 ⟨cV,hU,gj⟩;have hE:=cV.tab h;have ck:=hU.len;rw[bV]at ck;refine ae (aa 1 rfl (ab [0,1,5,20,21,22,23] ?_));refine ao (az rfl (fun hb=> ?_) (fun hb=> ?_))
 ·
  have iv:k<T.m:=by simpa using hb
  obtain⟨L3,yU,fa⟩:=hE.rows;obtain⟨pk,mb,rD⟩:=fa k iv;have y4:=hW.lt k iv;rw[h.n]at y4;obtain⟨A3,c3,y5,GC⟩:=hE.bv;rw[iw]at y5
  obtain⟨rfl,-,rfl⟩:Ab=A3∧T.m=T.m∧cb=c3:=by simpa using y5
  have gg:=hE.cell 6 _ rfl;obtain⟨xw,n1,d1,b1,yM,cM,yN⟩:=rD.rd (dQ (show s<L.w+1 by omega));have CK:=bZ k iv;refine aw (ah [0,1,5,20,21,22] rfl ?_);refine ao (aD (ae (aa 1 rfl (a5 ag rfl rfl rfl rfl rfl (GC) (by rw[Int.toNat_natCast];exact ql iv) (by omega) (by omega) fun _=> ?_))));refine aa 2 rfl (ab [0,1,5,6,7,20,21,22] ?_);refine aB rfl (aa 4 rfl (aX ag rfl rfl rfl (aP ag rfl rfl rfl (gg) (aa 1 rfl (a5 ag rfl rfl rfl rfl rfl (yU) (by rw[Int.toNat_natCast];exact mb) (by omega) (by omega) fun _=> ?_)))));refine aa 1 rfl (cQ (vs:=[.int .i64 n1,.int .i64 d1,.pointer b1]) ag rfl rfl rfl rfl yM rfl (by decide) (by rw[Int.toNat_natCast];exact yN) (by omega) (by omega) fun _=> ?_);refine aq rfl rfl (Fn.fw (cV.ne h.ne) (vV cM (by omega))) ?_;rintro v4 H4 ⟨dM,dr,n4,d4,b4,rfl,cE⟩;have kM:=cV.kept dM;obtain⟨ti,aj,ak⟩:=a9;refine dE (.inl rfl) ag rfl rfl rfl (by omega) (by omega) (kM.a6) rfl (by show 0+L.w*3≤xs.length;omega) aj ak (fun _=>rfl) rfl rfl rfl fun _=> ?_;refine ay (ah [0,1,5,20,21,22] rfl ?_);refine aB rfl (aJ rfl rfl ⟨by omega,by omega⟩ (vr 1 ?_))
  refine ay ?_;exact⟨k+1,aA xs (T.B k*3) [.int .i64 n4,.int .i64 d4,.pointer b4],by omega,av,kM.set (by rw[Int.toNat_natCast];exact j4),by rw[bY _ (List.mem_cons_self ..),il (g:=dU (ug T s k) (T.B k) (-(T.A k s))) (fun j _=>U8 hW m9 iv j)];exact m8 (hU.mono fun vs a=>dT _ _ vs a dM.le) y4 cE,by omega⟩
 ·
  have hb:T.m≤k:=by simpa using hb
  obtain rfl:k=T.m:=by omega
  have iO:=cV.done;rw[il (f:=ug T s T.m) (g:=T.dir s) (fun j hj=>rfl)]at hU;refine bA (ah [0,5] rfl ?_);refine ae (aa 2 rfl (aq rfl rfl (L7 (h.kept iO.1) hL (v:= .slice (some ⟨z,0,none⟩) L.w L.w) (f:=T.dir s) ⟨some ⟨z,0,none⟩,L.w,xs,by rw[bV],by rw[bV];exact Nat.le_refl _,cV.rd,hU.mono fun vs a=>dT _ _ vs a iO.2⟩ hz hN hw hn) ?_));rintro v9 H9 ⟨ix,eo,kN⟩;refine aa 1 rfl (ab [4] ?_);refine ar ⟨.inr rfl,_,.tmp rfl (.nil),?_⟩;exact⟨iO.1.trans ix,cV.hle.trans eo,kN⟩
theorem Mb{H:Heap}{G:TG}{L:TL}{T:al}{n m N:Nat}{v:Value}{f:Nat→Rat}(h:cB H G L T)(hc:fg H G L T)(hL:L.Ok n m)(hv:aM aT 3 (rem H G.gs) v (aH f L.w))(hf:∀j,j<L.w→aC (f j)≤N)(Mc:∀j,j<L.w→aC (T.c j)≤N)(hN:(N:Int)≤274877906944)(hw:(L.w:Int)≤1000000)(hm:(m:Int)≤1000000):
 Fn Tryz.prog 29 #[.pointer (some ⟨G.g,0,none⟩),v] H (wq fe 3 G.gs H (aH (fun i=>L.sF i*(f (L.uF i)-T.c (L.uF i))) m)):=by
 obtain⟨Av,cv,xv,rfl,jI,oB⟩:=hv.num
 rw[bV]
 have yW:=h.self
 obtain⟨Au,cu,xu,y6,Vb,Vc⟩:=yW.gF.one
 obtain⟨As,cs,xs5,lS,mR,q6⟩:=yW.gu.num
 rw[hL.Gz]at y6
 rw[hL.GA]at lS
 obtain⟨l,hl⟩:∃l,l=(fun i=>L.sF i*(f (L.uF i)-T.c (L.uF i))):=⟨_,rfl⟩
 have wo:∀i,i<m→aC (l i)≤2*N+2:=fun i hi=>by
  have h1:=hf _ (hL.uw i hi)
  have h2:=Mc _ (hL.uw i hi)
  have h3:=hL.s1 i hi
  have h4:=l5 (f (L.uF i)) (T.c (L.uF i))
  have h5:=nN (L.sF i) (f (L.uF i)-T.c (L.uF i))
  rw[hl];show aC (L.sF i*(f (L.uF i)-T.c (L.uF i)))≤_
  omega
 have dr:cell H ((⟨G.g,0,none⟩:Addr).add 4)=some (.slice Au m cu):=by rw[←y6];exact h.cell rfl
 obtain⟨gc,cc,CW,rI,uc⟩:=id hc
 have uh:gc∈G.gs:=TG.rH (by rw[CW];exact List.mem_singleton.2 rfl);refine aU (args:=[_,_]) Tryz.func29 rfl rfl Tryz.ntmps29 rfl rfl fun w0=> ?_;refine ah [0,1] rfl ?_;refine ae (aa 1 rfl (ab [0,1] ?_));refine ae (aa 2 rfl (aX ag rfl rfl rfl (aP ag rfl rfl rfl (dr) (aa 1 rfl (ja Tryz.underlying56 cN rfl rfl rfl (by omega) (by omega) (by omega) (by omega) ?_)))));intro z qn;rw[show ((m:Int)).toNat=m from by omega];have gP:c7 G.gs H _ z (dg [.int .i64 0,.int .i64 0,.pointer none] (m*3)) (m*3) 61:=c7.new h.ne qn
 have jm:bF (gq aT (rem (ins H z ⟨dg [.int .i64 0,.int .i64 0,.pointer none] (m*3),m*3,61,true⟩) (z::G.gs))) 3 (dg [.int .i64 0,.int .i64 0,.pointer none] (m*3)) (fill (aH l m) 0):=by have:=yA (P:=aT) (H:=rem (ins H z ⟨dg [.int .i64 0,.int .i64 0,.pointer none] (m*3),m*3,61,true⟩) (z::G.gs)) (zs:=[.int .i64 0,.int .i64 0,.pointer none]) (sz:=3) (by rfl) (aH l m);rwa [bV]at this
 have ee:=gP.tab h;refine aa 1 rfl (ab [0,1,5] ?_);refine ao (ae (aa 2 rfl (aX ag rfl rfl rfl (aP ag rfl rfl rfl (show cell _ _=some (.slice Au m cu)from by rw[←y6];exact ee.cell 4 _ rfl) ?_))));refine aa 2 rfl (ab [0,1,5,17,18,19] ?_);refine aD (jb (fun(k:Nat)(xs:List Value)=>m-k) (fun(k:Nat)(xs:List Value)=>put (put (put (put (put (put (emp) 0 (.val (.pointer (some ⟨G.g,0,none⟩)))) 1 (.val (.slice Av L.w cv))) 5 (.val (.slice (some ⟨z,0,none⟩) m m))) 17 (.val (.slice Au m cu))) 18 (.val (.int .i64 (m:Int)))) 19 (.val (.int .i64 (k:Int)))) (fun(k:Nat)(xs:List Value) H'=>c7 G.gs H H' z xs (m*3) 61∧bF (gq aT (rem H' (z::G.gs))) 3 xs (fill (aH l m) k)∧k≤m) 0 _ (⟨gP,jm,Nat.zero_le _⟩) av ?_);rintro k xs H2 ⟨cV,hU,gj⟩;have jE:=wb (l:=aH l m) (k:=k) (by rw[bV];exact gj);rw[bV]at jE;have ck:=hU.len;rw[jE]at ck;have hE:=cV.tab h;have jA:=cV.hle;refine ae (aa 1 rfl (ab [0,1,5,17,18,19,20] ?_));refine ao (az rfl (fun hb=> ?_) (fun hb=> ?_))
 ·
  have ea:k<m:=by simpa using hb
  obtain⟨uu,Vd,Ve⟩:=Vc k _ (hL.u ea)
  cases Ve
  have lA:=hL.uw k ea;obtain⟨n1,d1,b1,cM,di⟩:=oB _ _ (dQ lA);obtain⟨n2,d2,b2,fp,dL⟩:=q6 k _ (hL.s ea);obtain⟨xc,n3,d3,b3,o9,fM,fa⟩:=(uc.le cV.le (cV.same gc uh)).rd (dQ (show L.uF k<L.w+1 by omega));have ie:=hf _ lA;have qX:=Mc _ lA;have gW:=hL.s1 k ea;have wv:=(jI.le cV.le).le (bE _ _);have Vf:=(mR.le cV.le).le (bE _ _);have Vg:=Vb.le jA
  have cU:cell H2 ((⟨G.g,0,none⟩:Addr).add 5)=some (.slice As m cs):=by rw[←lS];exact hE.cell 5 _ rfl
  have gw:cell H2 ((⟨G.g,0,none⟩:Addr).add 7)=some (.slice (some ⟨gc,0,none⟩) (L.w+1) cc):=by rw[←rI];exact hE.cell 7 _ rfl
  refine aw (ah [0,1,5,17,18,19] rfl ?_);refine ao (aD (ae (aa 1 rfl (a5 ag rfl rfl rfl rfl rfl (Vg) (by rw[Int.toNat_natCast];exact Vd) (by omega) (by omega) fun _=> ?_))));refine aa 2 rfl (ab [0,1,5,6,7,17,18,19] ?_);refine fk .fC [0,1,2,3,4,5,6,7,8,9,10,11,12,13,14,15,16,17,18,19,20,21,22,23] follows (by kernel_rfl) ?_;refine aa 4 rfl (aX ag rfl rfl rfl (aP ag rfl rfl rfl (cU) (aa 1 rfl (cQ (vs:=[.int .i64 n2,.int .i64 d2,.pointer b2]) ag rfl rfl rfl rfl Vf rfl (by decide) (by rw[Int.toNat_natCast];exact dL) (by omega) (by omega) fun _=> ?_))));refine aa 2 rfl (cQ (vs:=[.int .i64 n1,.int .i64 d1,.pointer b1]) ag rfl rfl rfl rfl wv rfl (by decide) (by rw[Int.toNat_natCast];exact di) (by omega) (by omega) fun _=> ?_);refine aa 2 rfl (aX ag rfl rfl rfl (aP ag rfl rfl rfl (gw) (aa 1 rfl (cQ (vs:=[.int .i64 n3,.int .i64 d3,.pointer b3]) ag rfl rfl rfl rfl o9 rfl (by decide) (by rw[Int.toNat_natCast];exact fa) (by omega) (by omega) fun _=> ?_))));refine aI rfl rfl (Fn.fw (cV.ne h.ne) (o3 (N:=N) (cM.le cV.le) fM ie qX (by omega))) (fun _ _ h=>by first | exact h.le | exact h.1) ?_
  rintro v4 H4 ⟨dM,aas,n4,d4,b4,rfl,cE⟩;have kM:=cV.kept dM;have Md:=l5 (f (L.uF k)) (T.c (L.uF k));refine aI rfl rfl (Fn.fw (kM.ne h.ne) (qh (N:=2*N+2) (fp.le kM.le) cE (by omega) (by omega) (by omega))) (fun _ _ h=>by first | exact h.le | exact h.1) ?_;rintro v5 H5 ⟨iq,aat,n5,d5,b5,rfl,jG⟩;have kO:=kM.kept iq;obtain⟨ti,aj,ak⟩:=a9;refine dE (.inr rfl) ag rfl rfl rfl (by omega) (by omega) (kO.a6) rfl (by show 0+m*3≤xs.length;omega) aj ak (fun _=>rfl) rfl rfl rfl fun _=> ?_;refine ay (ah [0,1,5,17,18,19] rfl ?_);refine aB rfl (aJ rfl rfl ⟨by omega,by omega⟩ (aa 1 rfl (ay ?_)));exact⟨k+1,aA xs (k*3) [.int .i64 n5,.int .i64 d5,.pointer b5],by omega,av,kO.set j4,by rw[bY _ (List.mem_cons_self ..),←wc (a:=L.sF k*(f (L.uF k)-T.c (L.uF k))) (by rw[dQ ea,hl])];exact GB (hU.mono fun vs a=>gq.up dT _ _ vs a (dM.le.trans iq.le)) (by rw[jE];exact ea) jG,by omega⟩
 ·
  have hb:m≤k:=by simpa using hb
  obtain rfl:k=m:=by omega
  have iO:=cV.done;refine bA (ah [5] rfl ?_);refine ae (vr 1 ?_)
  refine aq rfl rfl (Fn.C0 (iO.1.ne h.ne) (Lu (l:=aH l k) ⟨some ⟨z,0,none⟩,k,xs,by rw[bV],by rw[bV];exact Nat.le_refl _,cV.rd,(L6 hU).mono fun vs a=>dT _ _ vs a iO.2⟩ (fun q hq=>by
  obtain⟨j,hj,rfl⟩:=List.mem_map.1 hq;have:=wo j (List.mem_range.1 hj)
  omega) (by rw[bV];omega))) ?_
  rintro v9 H9 ⟨ix,eo,kN⟩;refine aa 1 rfl (ab [4] ?_);refine ar ⟨.inr rfl,_,.tmp rfl (.nil),?_⟩;exact⟨iO.1.trans ix,cV.hle.trans eo,by rw[←hl];exact kN⟩
end Go.au
namespace Go.au
open Go.Proofs Num Lp
def gH(T:al)(f:Nat→Rat)(k j:Nat):Rat:=(if j=T.n then 0 else f j)-aN k (fun i=>f (T.B i)*T.A i j)
theorem Vh(T:al)(f:Nat→Rat)(k j:Nat):gH T f (k+1) j=gH T f k j-f (T.B k)*T.A k j:=by
 unfold gH;rw[eG];grind
theorem y7(f:Nat→Rat)(n:Nat):aH f (n+1)=aH f n ++ [f n]:=by
 unfold aH;rw[List.range_succ,List.map_append];rfl
theorem Vi(f:Nat→Rat)(n:Nat):aH f n ++ [0]=aH (fun j=>if j=n then 0 else f j) (n+1):=by
 rw[y7,il (f:=fun j=>if j=n then 0 else f j) (g:=f) (fun j hj=>by show (if j=n then 0 else f j)=f j;rw[if_neg (by omega)]),if_pos rfl]
theorem Vj{α:Type}{P:List Value→α→Prop}{sz:Nat}{xs:List Value}{l:List α}(h:bF P sz xs l)(hp:0<sz∧∀vs a,P vs a→∀u,u∈vs→u.oneCell'=true):∀u,u∈xs→u.oneCell'=true:=fun u hu=>by
 obtain⟨i,hi⟩:=List.getElem?_of_mem hu
 have a8:=(List.getElem?_eq_some_iff.1 hi).1
 rw[h.len]at a8
 have he:i/sz<l.length:=Nat.div_lt_of_lt_mul (by rw[Nat.mul_comm];exact a8)
 have hq:=h.at_ (i/sz) _ (List.getElem?_eq_getElem he)
 refine hp.2 _ _ hq u ?_
 have:(eM xs (i/sz) sz)[i%sz]? = some u:=by
  unfold eM
  rw[List.getElem?_take,if_pos (Nat.mod_lt _ hp.1),List.getElem?_drop,Nat.div_add_mod'];exact hi
 exact List.mem_of_getElem? this
theorem Vk{K:Heap}:0<3∧∀vs a,aT K vs a→∀u,u∈vs→u.oneCell'=true:=⟨by decide,fun vs a h u hu=>by
 obtain⟨n,d,b,rfl⟩:=h.cells
 simp only[List.mem_cons,List.not_mem_nil,or_false]at hu
 rcases hu with rfl | rfl | rfl <;> rfl⟩
def TG.cX(G:TG)(v:Value)(gc:Nat):TG:={G with cv:=v,cb:=[gc]}
theorem cB.Vl{H:Heap}{G:TG}{L:TL}{T:al}(h:cB H G L T){H3:Heap}{v:Value}{gc:Nat}{e:aG}(uh:H gc=none)(hle:Heap.le (rem H G.gs) (rem (ins H3 G.g e) (G.cX v gc).gs))(hs:∀q,q∈G.gs→H3 q=H q)(h3:H3 gc≠none)(he:e=⟨(G.cX v gc).cells L.w L.u T.m,9,68,true⟩):
  cB (ins H3 G.g e) (G.cX v gc) L T:=by
 have a4:∀q,q∈G.gs→q≠gc:=fun q hq e=>h.ne q hq (by rw[e];exact uh)
 have yD:G.g≠gc:=a4 _ G.m6
 have yq:∀q,q∈G.gs→q≠G.g→ins H3 G.g e q=H q:=fun q hq hn=>by rw[bD _ _ hn];exact hs q hq
 refine⟨h.n,h.uw,by show ins H3 G.g e G.g=_;rw[bn,he],?_,h.jD,?_,fun i p hp=> ?_,?_,h.plus.le jn hle,h.minus.le o8 hle,h.gF.le jn hle,h.gu.le dT hle,fun q hq=> ?_⟩
 ·have gL:=h.nd
  unfold TG.gs at gL⊢
  show (G.g::([gc]++(G.bb++G.rg.map (·.1)))).Nodup
  rw[List.nodup_cons,List.nodup_append]at gL
  have eP:∀q,q∈G.bb++G.rg.map (·.1)→q∈G.gs:=fun q hq=>List.mem_cons_of_mem _ (List.mem_append_right _ hq)
  rw[List.nodup_cons,List.nodup_append]
  refine⟨fun hm=> ?_,(by simp),gL.2.2.1,fun a ha b hb=> ?_⟩
  ·rcases List.mem_append.1 hm with hm | hm
   ·exact yD (List.mem_singleton.1 hm)
   ·exact gL.1 (List.mem_append_right _ hm)
  ·rw[List.mem_singleton]at ha
   rw[ha];exact fun e=>a4 b (eP b hb) e.symm
 ·obtain⟨xs,h1,h2⟩:=h.rows
  exact⟨xs,h1.le hle,h2⟩
 ·have xL:G.rg[i]? = some p:=hp
  exact(h.row i p xL).le hle (yq _ (TG.lz xL) (fun e=>TG.tZ h.nd (.inr (.inr ⟨i,p,xL,rfl⟩)) e.symm))
 ·rcases h.basis with h1 | ⟨gb,cb,sz,h1,h2,h4⟩
  ·exact .inl h1
  ·have hm:gb∈G.bb:=by rw[h1];exact List.mem_singleton.2 rfl
   exact .inr ⟨gb,cb,sz,h1,h2,by rw[yq _ (TG.qm hm) (fun e=>TG.tZ h.nd (.inr (.inl hm)) e.symm)];exact h4⟩
 ·have:q=gc:=List.mem_singleton.1 hq
  rw[this,bD _ _ (Ne.symm yD)];exact h3
theorem TG.Vm{G:TG}{v:Value}{gc q:Nat}(h:q∈(G.cX v gc).gs):q=gc∨q∈G.gs:=by
 unfold TG.gs at h
 rcases List.mem_cons.1 h with h | h
 ·exact .inr (by rw[h];exact G.m6)
 ·rcases List.mem_append.1 h with h | h
  ·exact .inl (List.mem_singleton.1 h)
  ·exact .inr (List.mem_cons_of_mem _ (List.mem_append_right _ h))
theorem Vn{H H3:Heap}{G:TG}{v:Value}{gc:Nat}{e:aG}(uh:H gc=none)(hle:Heap.le (rem H G.gs) (rem H3 G.gs)):Heap.le (rem H G.gs) (rem (ins H3 G.g e) (G.cX v gc).gs):=fun q en hq=>by
 have hm:¬q∈G.gs:=fun hm=>by rw[rem_in hm]at hq;cases hq
 have Vo:q≠gc:=fun e=>by rw[bK hm,e,uh]at hq;cases hq
 obtain⟨e',h1,h2⟩:=hle q en hq
 refine⟨e',?_,h2⟩
 rw[bK (fun h=>by rcases TG.Vm h with h | h;exact Vo h;exact hm h),bD _ _ (fun e=>hm (by rw[e];exact G.m6))]
 rwa [bK hm]at h1
theorem Me{H:Heap}{G:TG}{L:TL}{T:al}{N:Nat}{v:Value}{f:Nat→Rat}(h:cB H G L T)(hv:aM aT 3 (rem H G.gs) v (aH f L.w))(hB:∀i,i<T.m→T.B i<L.w)(hN:(N:Int)≤549755813888)(hw:(L.w:Int)≤1000000)(hm:(T.m:Int)≤1000000)
 (hf:∀j,j<L.w→aC (f j)≤N) (hA:∀i,i<T.m→∀j,j≤L.w→aC (T.A i j)≤N) (hp:∀k,k≤T.m→∀j,j≤L.w→aC (gH T f k j)≤N):
 Fn Tryz.prog 24 #[.pointer (some ⟨G.g,0,none⟩),v] H (fun _ H'=>∃cv gc,H gc=none∧cB H' (G.cX cv gc) L {T with c:=gH T f T.m}∧fg H' (G.cX cv gc) L {T with c:=gH T f T.m}∧Heap.le (rem H G.gs) (rem H' (G.cX cv gc).gs)):=by
 obtain⟨Av,Vp,xv,rfl,Vq,jI,C3⟩:=hv
 rw[bV]at Vq
 rw[bV]
 have Mf:=C3.len
 rw[bV]at Mf
 have Gu:=h.n;refine aU (args:=[_,_]) Tryz.func24 rfl rfl Tryz.ntmps24 rfl rfl fun w0=> ?_;refine ah [0,1] rfl ?_;refine ae (aa 2 rfl (eX Tryz.underlying56 cN rfl rfl (oG _ 61 3) (jI.le (bE _ _)) (Mf) (Vj C3 Vk) (by omega) (by omega) ?_));intro v1 H1 wx;rw[List.nil_append,Nat.zero_add]at wx;obtain⟨e8,ld⟩:=wx.rem (gs:=G.gs) h.ne (fun q _ e=>by cases e);have wy:=e8.own;refine aq rfl rfl (ln) ?_;rintro v2 H2 ⟨e2,rfl⟩;rw[e2];refine dD Tryz.underlying56 cN rfl rfl rfl rfl rfl rfl rfl ?_;intro gz y8;have GD:¬gz∈G.gs:=fun hm=>h.ne gz hm (by rw[←ld gz hm];exact y8)
 have jX:∀q,q∈G.gs→ins H1 gz (whole (eB [N3 0 1 none]) 61) q=H q:=fun q hq=>by rw[bD _ _ (fun e=>GD (by rw[←e];exact hq))];exact ld q hq
 refine eX Tryz.underlying56 cN rfl rfl (wx.own.ins _ y8) (g5 _ _ _ _ _ _) (rfl) (by decide) (by omega) (by omega) ?_;intro v3 H3 GF
 obtain⟨fY,ui⟩:=GF.rem (gs:=G.gs) (fun q hq=>by rw[jX q hq];exact h.ne q hq) (fun q hq e=>by
  rcases wx.at_ with h9 | ⟨g9,h9,fU⟩
  ·rw[h9]at e;cases e
  ·rw[h9]at e;cases e;exact h.ne _ hq fU)
 obtain⟨gc,cc,rfl,Mg,C4⟩:∃gc cc,v3 = .slice (some ⟨gc,0,none⟩) (L.w+1) cc∧H3 gc=some ⟨xv++eB [N3 0 1 none],cc*3,61,true⟩∧H gc=none:=by
  rcases GF.own.2 with h9 | ⟨g9,c9,h9,fU,_⟩
  ·omega
  ·
   refine⟨g9,c9,h9,fU,?_⟩
   rcases GF.at_ with fo | ⟨g11,fo,sZ⟩
   ·
    rw[h9]at fo
    rcases wx.at_ with j5 | ⟨g13,j5,wz⟩
    ·rw[j5]at fo;cases fo
    ·rw[j5]at fo;cases fo;exact wz
   rw[h9]at fo
   cases fo
   have rM:=(th sZ).2
   cases hh:H g9 with
   | none=>rfl
   | some en=>(obtain⟨e',Mh,_⟩:=wx.le g9 en hh;rw[rM]at Mh;cases Mh)
 have Mi:∀q,q∈G.gs→H3 q=H q:=fun q hq=>(ui q hq).trans (jX q hq);have fL:Heap.le (rem H G.gs) (rem H3 G.gs):=(e8.le.trans (by rw[yk _ GD];exact Heap.bh _ (by rw[bK GD];exact y8))).trans fY.le
 have Mj:H3 G.g=some ⟨G.cells L.w L.u T.m,9,68,true⟩:=by rw[Mi _ G.m6];exact h.st
 refine aa 1 rfl (aX ag rfl rfl rfl ?_);obtain⟨ti,aj,ak⟩:=xR;refine l4 (g:=G.g) (o:=7) (.inl rfl) rfl Mj rfl (by show 7+1≤9;omega) aj ak rfl rfl rfl rfl ?_;have eY:=Vn (v:= .slice (some ⟨gc,0,none⟩) (L.w+1) cc) (e:={(⟨G.cells L.w L.u T.m,9,68,true⟩:aG)with xs:=aA (G.cells L.w L.u T.m) 7 [.slice (some ⟨gc,0,none⟩) (L.w+1) cc]}) C4 fL;have h4:=h.Vl (v:= .slice (some ⟨gc,0,none⟩) (L.w+1) cc) C4 eY Mi (by rw[Mg];simp) rfl;have yD:gc≠G.g:=fun e=>h.ne _ G.m6 (by rw[←e];exact C4)
 have Mk:ins H3 G.g {(⟨G.cells L.w L.u T.m,9,68,true⟩:aG)with xs:=aA (G.cells L.w L.u T.m) 7 [.slice (some ⟨gc,0,none⟩) (L.w+1) cc]} gc=some ⟨xv++eB [N3 0 1 none],cc*3,61,true⟩:=by rw[bD _ _ yD];exact Mg
 generalize ins H3 G.g {(⟨G.cells L.w L.u T.m,9,68,true⟩:aG)with xs:=aA (G.cells L.w L.u T.m) 7 [.slice (some ⟨gc,0,none⟩) (L.w+1) cc]}=H4 at eY h4 Mk
 refine ab [0,1] ?_
 have Ml:bF (aT (rem H4 (G.cX (.slice (some ⟨gc,0,none⟩) (L.w+1) cc) gc).gs)) 3 (xv++eB [N3 0 1 none]) (aH (gH T f 0) (L.w+1)):=by
  rw[il (f:=gH T f 0) (g:=fun j=>if j=L.w then 0 else f j) (fun j _=>by unfold gH;rw[vW,Gu];grind),←Vi];exact(C3.mono fun vs a=>dT _ _ vs a eY).append (p8 (ll _ (n:=0) (by decide) (by decide)) rfl)
 obtain⟨G',pe⟩:∃G',G'=G.cX (.slice (some ⟨gc,0,none⟩) (L.w+1) cc) gc:=⟨_,rfl⟩;rw[←pe]at eY h4 Ml
 have uj:G'.g=G.g:=by rw[pe];rfl
 have tr:fg H4 G' L {T with c:=gH T f 0}:=⟨gc,cc,by rw[pe];rfl,by rw[pe];rfl,_,_,Mk,Ml⟩;have Vr:cB H4 G' L {T with c:=gH T f 0}:=h4.congr rfl rfl (fun _ _ _ _=>rfl) (fun _ _=>rfl);obtain⟨Ab,cb,iw,_⟩:=h4.self.bv
 have gG:cell H4 ((⟨G.g,0,none⟩:Addr).add 8)=some (.slice Ab T.m cb):=by rw[←iw,←uj];exact h4.cell rfl
 refine ae (aa 2 rfl (aX ag rfl rfl rfl (aP ag rfl rfl rfl (gG) (aa 2 rfl (ab [0,1,17,18,19] ?_)))));refine aD (gm (fun(k:Nat)=>T.m-k) (fun(k:Nat)=>put (put (put (put (put (emp) 0 (.val (.pointer (some ⟨G.g,0,none⟩)))) 1 (.val (.slice Av L.w Vp))) 17 (.val (.slice Ab T.m cb))) 18 (.val (.int .i64 (T.m:Int)))) 19 (.val (.int .i64 (k:Int)))) (fun(k:Nat) H'=>cB H' G' L {T with c:=gH T f k}∧fg H' G' L {T with c:=gH T f k}∧Heap.le (rem H G.gs) (rem H' G'.gs)∧k≤T.m) 0 (⟨Vr,tr,eY,Nat.zero_le _⟩) av ?_);rintro k H5 ⟨h5,yV,eR,iq⟩;obtain⟨A2,c2,yS,yj⟩:=h5.self.bv;rw[iw]at yS
 obtain⟨rfl,-,rfl⟩:Ab=A2∧T.m=T.m∧cb=c2:=by simpa using yS
 refine ae (aa 1 rfl (ab [0,1,17,18,19,20] ?_));refine ao (az rfl (fun hb=> ?_) (fun hb=> ?_))
 ·
  have iv:k<T.m:=by simpa using hb
  have Mm:=hB k iv;obtain⟨pk,mb⟩:=h5.get (i:=k) iv;obtain⟨Vs,_,gn,g6⟩:=C3.get (dQ Mm);obtain⟨n1,d1,b1,rfl⟩:=gn.cells;obtain⟨gc',cc',aau,aav,aaw⟩:=id yV
  have gw:cell H5 ((⟨G.g,0,none⟩:Addr).add 7)=some G'.cv:=by rw[←uj];exact h5.cell rfl
  refine aw (ah [0,1,17,18,19] rfl ?_);refine ao (aD (ae (aa 1 rfl (a5 ag rfl rfl rfl rfl rfl (yj) (by rw[Int.toNat_natCast];exact ql (B:=T.B) iv) (by omega) (by omega) fun _=> ?_))));refine aa 2 rfl (ab [0,1,4,5,17,18,19] ?_);refine fk .oz [0,1,2,3,4,5,6,7,8,9,10] follows (by kernel_rfl) ?_;refine aa 3 rfl (aX ag rfl rfl rfl (aP ag rfl rfl rfl (gw) (aa 3 rfl (cQ (vs:=[.int .i64 n1,.int .i64 d1,.pointer b1]) ag rfl rfl rfl rfl ((jI.le eR).le (bE _ _)) rfl (by decide) (by rw[Int.toNat_natCast];exact g6) (by omega) (by omega) fun _=> ?_))));refine KI rfl rfl (by rw[←uj];exact LL (N:=N) h5 yV mb (gn.le eR) hN hw (hf _ Mm) (fun j hj=>hp k (by omega) j hj) (fun j hj=>hA k iv j hj)) ?_;rintro v6 H6 ⟨h6,Gr,jH⟩;refine ay (ah [0,1,17,18,19] rfl ?_);refine aB rfl (aJ rfl rfl ⟨by omega,by omega⟩ (aa 1 rfl (ay ?_)));exact⟨k+1,by omega,av,h6.congr rfl rfl (fun _ _ _ _=>rfl) (fun _ _=>rfl),Gr.congr (fun j _=>Vh T f k j),eR.trans jH,by omega⟩
 ·
  have hb:T.m≤k:=by simpa using hb
  obtain rfl:k=T.m:=by omega
  refine bA ?_;refine⟨.inl rfl,_,.nil,?_⟩;exact⟨_,gc,C4,by rw[←pe];exact h5,by rw[←pe];exact yV,by rw[←pe];exact eR⟩
end Go.au
namespace Go.au
open Go
section
variable {P:Program} {n:Nat} {tb:Tb} {all:Array Oper} {s:St} {H:Heap} {md:Mode} {K:St→Heap→Prop} {r:List Oper} {dst:Option Nat} {ty:TypeId} {pos:String} {after:Array Edge} {gd:Option (Nat×Bool)} {kc:Addr→Option Value}
theorem C5{op:Op}(v:Value)(hm:mC op=false)(hc:(Mode.dK kc).nt H)(hg:bI all s gd=some true)(nb:iU s dst=true)
  (h:∀a w,ey n s a→(∀ad u,kc ad=some u→w.cell? ad=some u)→(execOp a.eval ⟨dst,op,ty,pos,after,gd⟩).run P w = .ok (.value v) w) (k:aE P n all (.dK kc) r (aQ s dst (.val v)) H K):aE P n all (.dK kc) (⟨dst,op,ty,pos,after,gd⟩::r) s H K:=
 .iW v rfl hm nb hc (fun a w ha hd=> .inl ⟨gy ha (iI (o:=⟨dst,op,ty,pos,after,gd⟩) hg),h a w ha hd⟩) k
theorem y9{x:Operand}{v:Value}(hc:(Mode.dK kc).nt H)(hx:ev s x=some v)(hk:aE P n all (.dK kc) r (aQ s dst (.val v)) H K)(hg:bI all s gd=some true:=by rfl)(nb:iU s dst=true:=by rfl):aE P n all (.dK kc) (⟨dst,.move x,ty,pos,after,gd⟩::r) s H K:=
 C5 v rfl hc hg nb (fun a w ha _=>by simp[execOp,a7 ha hx]) hk
theorem pf{x:Operand}{ad:Addr}(hc:(Mode.dK kc).nt H)(hx:ev s x=some (.pointer (some ad)))(hk:aE P n all (.dK kc) r (aQ s dst (.val (.pointer (some ad)))) H K)(hg:bI all s gd=some true:=by rfl)(nb:iU s dst=true:=by rfl):aE P n all (.dK kc) (⟨dst,.nilCheck x,ty,pos,after,gd⟩::r) s H K:=
 C5 _ rfl hc hg nb (fun a w ha _=>by simp[execOp,a7 ha hx]) hk
theorem pg{t:TypeId}{x:Operand}{f:Nat}{ad:Addr}{m o z:Nat}{ps:List (Nat×Nat)}(hc:(Mode.dK kc).nt H)(cT:iH P tb)(ht:tb[t]? = some (.st m ps))(hf:ps[f]? = some (o,z))(hx:ev s x=some (.pointer (some ad)))
  (hk:aE P n all (.dK kc) r (aQ s dst (.val (.pointer (some (ad.add o))))) H K) (hg:bI all s gd=some true:=by rfl) (nb:iU s dst=true:=by rfl):aE P n all (.dK kc) (⟨dst,.fieldAddr t x f,ty,pos,after,gd⟩::r) s H K:=
 C5 _ rfl hc hg nb (fun a w ha _=>by
  obtain⟨fs,ii,hu,h2,h3,_,h4⟩:=cT t _ ht
  obtain⟨fd,jj,h5,h6,h7,h9,fU⟩:=h4 f _ hf
  have h8:jj.size≠0:=by rw[h9];exact fU
  simp only at h6
  simp[execOp,a7 ha hx,Instr.fieldAt,run_underlying hu,h5,Instr.sureAddr,By h7 h8,h6]) hk
theorem kP{t:TypeId}{x:Operand}{ad:Addr}{ti:Ti}{v:Value}(hc:(Mode.dK kc).nt H)(cT:iH P tb)(ht:tb[t]? = some ti)(h1:sR ti=true)(hx:ev s x=some (.pointer (some ad)))(hv:kc ad=some v)
  (hk:aE P n all (.dK kc) r (aQ s dst (.val v)) H K) (hg:bI all s gd=some true:=by rfl) (nb:iU s dst=true:=by rfl):aE P n all (.dK kc) (⟨dst,.load t x,ty,pos,after,gd⟩::r) s H K:=
 C5 _ rfl hc hg nb (fun a w ha hd=>by simp[execOp,a7 ha hx,Instr.loadAt,Instr.sureAddr,EK (cT t _ ht) h1 (hd ad v hv)]) hk
theorem za{f:Operand}{iZ:FuncId}{cap args:List Value}{xs:List Operand}{ts:Array TypeId}{aY:Value→Heap→Prop}(hf:ev s f=some (.func (.func iZ) #[] cap.toArray))(hx:mL s xs=some args)
  (h:Fn P iZ (args++cap).toArray H aY) (hm:∀v H',aY v H'→(Mode.dK kc).nt H') (hk:∀v H',aY v H'→aE P n all (.dK kc) r (aQ s dst (.val v)) H' K) (hg:bI all s gd=some true:=by rfl) (nb:iU s dst=true:=by rfl):aE P n all (.dK kc) (⟨dst,.call ⟨.value f,xs.toArray,ts⟩,ty,pos,after,gd⟩::r) s H K:=
 .js aY rfl (.inl xH) nb (xG (cap:=cap) hf hx hg h) (.inr hm) fun v H' hp _=>hk v H' hp
theorem zb{t e bytes:Nat}{x:Operand}{z v:Value}(ht:P.underlying t=some (.slice e))(he:fm P e 1 z bytes)(hx:ev s x=some v)(hv:v.cells = #[v])
  (hk:∀g,H g=none→aE P n all (.dK kc) r (aQ s dst (.val (.slice (some ⟨g,0,none⟩) 1 1))) (ins H g (whole [v] e)) K) (hg:bI all s gd=some true:=by rfl) (nb:iU s dst=true:=by rfl):
  aE P n all (.dK kc) (⟨dst,.buildSlice t 1 #[(0,x)],ty,pos,after,gd⟩::r) s H K:=
 .kf (fun g=> .slice (some ⟨g,0,none⟩) 1 1) [v] e rfl rfl nb (fun a w ha=>by
  refine⟨gy ha (iI (o:=⟨dst,.buildSlice t 1 #[(0,x)],ty,pos,after,gd⟩) hg),?_⟩
  obtain⟨i,hi,hz,bZ,_,xI,_⟩:=he
  have lN:v.cells.size=1:=by rw[hv];rfl
  have sX:Instr.fill (fun k=>some (k*i.size,i.size)) (madeCells z.cells (1*i.size)) [(0,v)]=some #[v]:=by
   have h1:=JF (sz:=1) [v] 0 [] (madeCells z.cells 1).toList (fun u hu=>by rw[List.mem_singleton]at hu;rw[hu];exact lN) rfl (by simp[size_madeCells])
   simp only[List.nil_append,Array.toArray_toList,List.length_singleton]at h1
   have e1:eB [v] = [v]:=by simp[eB,hv]
   rw[e1]at h1
   rw[bZ]
   simpa [List.range']using h1
  have:=JG (P:=P) (w:=w) (t:=t) (e:=e) (len:=1) (i:=i) (z:=z) (parts:= #[(0,v)]) (cells:= #[v]) ht hi hz (by rw[bZ];decide) (by rw[bZ];decide) sX
  simp only[execOp,List.map_toArray,List.map_cons,List.map_nil,a7 ha hx,Sem.run_bind,this,Result.andThen_ok,Sem.run_pure]) fun g hg _=>hk g hg
theorem zc{t e sz bytes:Nat}{x y:Operand}{z v:Value}{m k c:Nat}{A:Option Addr}{xs news:List Value}(ht:P.underlying t=some (.slice e))(he:fm P e sz z bytes)(hx:ev s x=some v)(hy:ev s y=some (.slice A k c))(ho:bm H v e sz m xs)
  (hr:Rd H A news) (hl:news.length=k*sz) (h1:∀u∈news,u.oneCell'=true) (hb:(m+k)*bytes≤140737488355328) (mM:m+k≤9223372036854775807) (hc:(Mode.dK kc).nt H)
  (hk:∀v' H',App H v e sz (m+k) (xs++news) v' H'→aE P n all (.dK kc) r (aQ s dst (.val v')) H' K) (hg:bI all s gd=some true:=by rfl) (nb:iU s dst=true:=by rfl):aE P n all (.dK kc) (⟨dst,.call ⟨.builtin .append,#[x,y],#[t,t]⟩,ty,pos,after,gd⟩::r) s H K:=
 .js (fun v' H'=>App H v e sz (m+k) (xs++news) v' H') rfl (.inl (by simp[kd,Bc])) nb (fun a w ha hd=>by
  refine⟨gy ha (iI (o:=⟨dst,.call ⟨.builtin .append,#[x,y],#[t,t]⟩,ty,pos,after,gd⟩) hg),?_⟩
  obtain⟨v',w',H',h2,h3,h4,h5⟩:=JC (P:=P) (c:=c) hd ht he ho hr hl h1 hb mM ty
  have hex:(execOp a.eval ⟨dst,.call ⟨.builtin .append,#[x,y],#[t,t]⟩,ty,pos,after,gd⟩).run P w = .ok (.value v') w':=by
   simp[execOp,resolve,invoke,builtin,a7 ha hx,a7 ha hy,h2]
  unfold iD
  rw[hex]
  exact⟨H',h3,h4,h5⟩) (.inr fun v' H' ha ad u hu=>cg ha.le (hc ad u hu)) fun v' H' ha _=>hk v' H' ha
theorem Vt{t:TypeId}{x y:Operand}{g o sz:Nat}{ent:aG}{v:Value}{vs:List Value}{ii:TypeInfo}(hx:ev s x=some (.pointer (some ⟨g,o,none⟩)))(hg:H g=some ent)(bS:ent.own=true)(eP:o+sz≤ent.xs.length)
  (sY:P.info? t=some ii) (bZ:ii.size=sz) (hy:ev s y=some v) (hv:v.cells=vs.toArray) (ig:vs.length=sz) (h1:vs.all sW=true) (pS:bI all s gd=some true):
  EV P n all ⟨none,.store t x y,ty,pos,after,gd⟩ s H (fun _ H'=>H'=ins H g {ent with xs:=aA ent.xs o vs}):=fun a w ha hd=>by
 refine⟨gy ha (iI (o:=⟨none,.store t x y,ty,pos,after,gd⟩) pS),?_⟩
 obtain⟨ob,h2,cur,fz,rfl,h3,h4,h5⟩:=hd g ent hg
 have mK:=h5 bS
 subst mK
 have xJ:cur=cur.toList.toArray:=by simp
 have hlen:ent.xs.length≤cur.toList.length:=by
  rcases Nat.eq_zero_or_pos ent.xs.length with h | h
  ·omega
  ·have hx:=h4 (ent.xs.length-1) _ (List.getElem?_eq_getElem (by omega))
   have:=(Array.getElem?_eq_some_iff.1 hx).1
   simp;omega
 rw[xJ]at h2
 obtain⟨w',h6,h7,h8,h9,fU,fo,sZ⟩:=BB (P:=P) vs cur.toList w o 0 h2 (fun u hu=>List.all_eq_true.1 h1 u hu) (by omega)
 have hex:(execOp a.eval ⟨none,.store t x y,ty,pos,after,gd⟩).run P w = .ok .skip w':=by
  simp[execOp,a7 ha hx,a7 ha hy,Instr.storeAt,Instr.sureAddr,storeVar,sizeOf,typeInfo,sY,bZ,hv,ig,h6]
 unfold iD
 rw[hex]
 refine⟨_,rfl,vq (o:= .cells (aA cur.toList (o+0) vs).toArray ent.elem (0,0)) hd h7 h8 h9 (by omega) (fun q _ hq=>fo q hq) sZ ⟨_,(0,0),rfl,?_,?_,fun _=>rfl⟩ (.inl ⟨_,hg,bS,bS,rfl,rfl⟩)⟩
 ·simp[xF,h3]
 ·intro q u hq
  have:=KJ vs ent.xs cur.toList o (fun i w hw=>by have:=h4 i w hw;simpa using this) (by omega) q u hq
  simpa using this
theorem zd{t:TypeId}{x y:Operand}{g o sz:Nat}{ent:aG}{v:Value}{vs:List Value}{ii:TypeInfo}(hx:ev s x=some (.pointer (some ⟨g,o,none⟩)))(hg:H g=some ent)(bS:ent.own=true)(eP:o+sz≤ent.xs.length)
  (sY:P.info? t=some ii) (bZ:ii.size=sz) (hy:ev s y=some v) (hv:v.cells=vs.toArray) (ig:vs.length=sz) (h1:vs.all sW=true)
  (hk:aE P n all (.dK kc) r s (ins H g {ent with xs:=aA ent.xs o vs}) K) (pS:bI all s gd=some true:=by rfl):aE P n all (.dK kc) (⟨none,.store t x y,ty,pos,after,gd⟩::r) s H K:=
 .js _ rfl (.inr rfl) rfl (Vt hx hg bS eP sY bZ hy hv ig h1 pS) (.inl rfl) fun _ H' hH _=>by rw[hH];exact hk
theorem Vu{f:FuncId}{xs:List Operand}{cap:List Value}(hx:mL s xs=some cap)(hk:aE P n all md r (aQ s dst (.val (.func (.func f) #[] cap.toArray))) H K)(hg:bI all s gd=some true:=by rfl)(nb:md.nb s dst=true:=by rfl):
  aE P n all md (⟨dst,.makeFunc (.func f) #[] xs.toArray,ty,pos,after,gd⟩::r) s H K:=
 fF _ rfl hg nb (fun a w ha _=>by simp[execOp,EL ha xs cap hx,Instr.makeFunc]) hk
end
end Go.au
namespace Go.au
open Go.Proofs Num Lp
def gQ(L:TL)(a:Nat→Rat)(sg:Rat):Nat→Nat→Rat
 | 0=>fun _=>0
 | k+1=>if 0≤L.mZ k then dU (dU (gQ L a sg k) (L.pF k) (a k*sg)) (L.mZ k).toNat (-(a k*sg))else dU (gQ L a sg k) (L.pF k) (a k*sg)
def oc(f:Nat→Rat)(rel slack:Int)(sg:Rat):Nat→Rat:=if rel=1 then dU f slack.toNat sg else if rel=3 then dU f slack.toNat (-sg)else f
def C6(L:TL)(n:Nat)(a:Nat→Rat)(b:Rat)(rel slack:Int)(unit:Nat)(sg:Rat):Nat→Rat:=
 dU (dU (oc (gQ L a sg n) rel slack sg) unit 1) L.w (b*sg)
def ep(N:Nat)(H:Heap)(vs:List Value)(r:List Rat×Int×Rat):Prop:=
 ∃c f u w,vs = [c,.int .i64 r.2.1,.bool f,u,w]∧aM (ca N) 3 H c r.1∧cj H (.agg #[.bool f,u,w]) r.2.2 N
theorem qo(N:Nat):Up (ep N):=fun H H' vs r hl ⟨c,f,u,w,h1,h2,h3⟩=>⟨c,f,u,w,h1,h2.le (fu N) hl,h3.le hl⟩
theorem ep.cells{N:Nat}{H:Heap}{vs:List Value}{r:List Rat×Int×Rat}(h:ep N H vs r):∃A c k f A1 m1 c1 A2 m2 c2,vs = [.slice A k c,.int .i64 r.2.1,.bool f,.slice A1 m1 c1,.slice A2 m2 c2]∧k=r.1.length:=by
 obtain⟨c,f,u,w,h1,⟨A,cc,xs,rfl,_⟩,h3⟩:=h
 obtain⟨f',u',w',l1,l2,e,⟨A1,c1,rfl,_,_⟩,⟨A2,c2,rfl,_,_⟩,_⟩:=h3
 have:=tV (vs:=[.bool f,u,w]) e
 simp only[List.cons.injEq,Value.bool.injEq,and_true]at this
 obtain⟨_,rfl,rfl⟩:=this
 exact⟨A,cc,_,f,A1,_,c1,A2,_,c2,h1,rfl⟩
theorem wA{H:Heap}{gv g w:Nat}{ts:List Value}(hv:cell H ⟨gv,0,none⟩=some (.pointer (some ⟨g,0,none⟩)))(hg:H g=some ⟨.int .i64 (w:Int)::ts,9,68,true⟩)(a4:gv≠g)(hw:(w:Int)≤1000000):
 Fn Tryz.prog 59 #[.pointer (some ⟨gv,0,none⟩)] H (fun v H'=>v = .int .i64 (w:Int)∧H'=ins H g ⟨.int .i64 ((w+1:Nat):Int)::ts,9,68,true⟩):=by
 have nT:cell H ((⟨g,0,none⟩:Addr))=some (.int .i64 (w:Int)):=by simp[cell,hg]
 have vu:∀e,cell (ins H g e) ⟨gv,0,none⟩=some (.pointer (some ⟨g,0,none⟩)):=fun e=>by
  simp only[cell,bD _ _ a4]at hv⊢;exact hv
 refine aU (args:=[_]) Tryz.func59 rfl rfl Tryz.ntmps59 rfl rfl fun w0=> ?_;refine ah [0] rfl ?_;refine ae (aa 1 rfl (ab [0] ?_));refine ae (aP ag rfl rfl rfl (hv) (aa 1 rfl (aX ag rfl rfl rfl (aP ag rfl rfl rfl (nT) (aJ rfl rfl ⟨by omega,by omega⟩ (aa 1 rfl (aX ag rfl rfl rfl ?_)))))));obtain⟨ti,aj,ak⟩:=pT;refine l4 (g:=g) (o:=0) (.inl rfl) rfl hg rfl (by show 0+1≤(Value.int .i64 (w:Int)::ts).length;simp) aj ak rfl rfl rfl rfl ?_;rw[show ({(⟨.int .i64 (w:Int)::ts,9,68,true⟩:aG)with xs:=aA (.int .i64 (w:Int)::ts) 0 [.int .i64 ((w:Int)+1)]}:aG)=⟨.int .i64 ((w+1:Nat):Int)::ts,9,68,true⟩from rfl];refine ab [0] ?_;refine ae (aP ag rfl rfl rfl (vu _) (aa 1 rfl (aX ag rfl rfl rfl (aP ag rfl rfl rfl (show cell (ins H g ⟨.int .i64 ((w+1:Nat):Int)::ts,9,68,true⟩) ⟨g,0,none⟩=some (.int .i64 ((w+1:Nat):Int))from by simp[cell,ins]) ?_))));refine cY rfl rfl ⟨by omega,by omega⟩ (aa 1 rfl (ab [1] ?_));refine ar ⟨.inr rfl,_,.tmp rfl (.nil),?_⟩;refine⟨?_,rfl⟩
 show Value.int .i64 (((w+1:Nat):Int)-1)=_
 rw[show (((w+1:Nat):Int)-1)=(w:Int) by omega]
end Go.au
namespace Go.au
open Go.Proofs Num
theorem uk{H:Heap}{u:Value}{l:List Nat}(hu:fI H u l)(a8:Lt l)(hm:(l.length:Int)≤17592186044416):
 Fn Tryz.prog 107 #[u] H (jy H (val l)):=by
 obtain⟨A,c,rfl,hc,hr⟩:=hu;refine aU (args:=[_]) Tryz.func107 rfl rfl Tryz.ntmps107 rfl rfl fun w0=> ?_;refine ah [0] rfl ?_;refine ae (aa 1 rfl (ab [0] ?_));refine ae (aa 3 rfl (ab [0,3] ?_));refine ao (aD (gm (fun(k:Nat)=>k) (fun(k:Nat)=>put (put (emp) 0 (.val (.slice A l.length c))) 3 (.val (.int .i64 (k:Int)))) (fun(k:Nat) H'=>H'=H∧k≤l.length∧val (l.take k)=val l) l.length (⟨rfl,Nat.le_refl _,by simp⟩) av ?_));rintro k H1 ⟨rfl,hk,hv⟩;refine ao ?_
 rcases Nat.eq_zero_or_pos k with BP | BP
 ·
  skip
  refine ae (aa 1 rfl (ax false rfl rfl (gD (by omega)) (aa 8 rfl (ab [0,3,15] ?_))));refine cP rfl (bA (ah [0,3] rfl ?_));refine ae (aa 2 rfl (vw ag rfl rfl (.inl ⟨rfl,rfl⟩) (.inr ⟨_,_,rfl,rfl⟩) (by omega) (by omega) ?_));rw[xU];refine eX Tryz.underlying27 cR rfl rfl (rb _) (hr.take k) (by simp[s5];omega) (fun u hu=>ks _ u (List.mem_of_mem_take hu)) (by simp;omega) (by simp;omega) ?_;intro v1 H2 ha;rw[←xT,Nat.sub_zero]at ha;refine aa 1 rfl (ab [2] ?_);refine ar ⟨.inr rfl,_,.tmp rfl (.nil),?_⟩;have e:=BN a8 hk hv (.inl BP);have h1:=(App.lb (a:=[]) (b:=l.take k) ha rfl (by simp;omega)).lR;rw[List.nil_append,←e]at h1;exact⟨ha.le,h1⟩
 ·
  obtain⟨x,hx⟩:∃x,l[k-1]? = some x:=⟨_,List.getElem?_eq_getElem (by omega)⟩;refine ae (aa 1 rfl (ax true rfl rfl (jU (by omega)) (aa 3 rfl (cY rfl rfl ⟨by omega,by omega⟩ (a5 ag rfl rfl rfl rfl rfl (hr) (cA (by rw[show ((k:Int)-1).toNat=k-1 by omega];exact hx)) (by omega) (by omega) fun _=> ?_)))));refine aa 2 rfl (ab [0,3,15] ?_);refine az rfl (fun hb=> ?_) (fun hb=> ?_)
  ·
   have hb:x=0:=by simpa using hb
   refine aw (ah [0,3] rfl ?_);refine aD (aB rfl (aa 1 rfl (cY rfl rfl ⟨by omega,by omega⟩ (aa 1 rfl (ay ?_)))));exact⟨k-1,by omega,av,rfl,by omega,by have:=gY hx;rw[show k-1+1=k by omega,hb,Nat.mul_zero,Nat.add_zero]at this;rw[←this];exact hv⟩
  have hb:x≠0:=by simpa using hb
  refine bA (ah [0,3] rfl ?_);refine ae (aa 2 rfl (vw ag rfl rfl (.inl ⟨rfl,rfl⟩) (.inr ⟨_,_,rfl,rfl⟩) (by omega) (by omega) ?_));rw[xU];refine eX Tryz.underlying27 cR rfl rfl (rb _) (hr.take k) (by simp[s5];omega) (fun u hu=>ks _ u (List.mem_of_mem_take hu)) (by simp;omega) (by simp;omega) ?_;intro v1 H2 ha;rw[←xT,Nat.sub_zero]at ha;refine aa 1 rfl (ab [2] ?_);refine ar ⟨.inr rfl,_,.tmp rfl (.nil),?_⟩;have e:=BN a8 hk hv (.inr ⟨x,hx,hb⟩);have h1:=(App.lb (a:=[]) (b:=l.take k) ha rfl (by simp;omega)).lR;rw[List.nil_append,←e]at h1;exact⟨ha.le,h1⟩
theorem Mn{H:Heap}{u:Value}{l:List Nat}(hu:fI H u l)(s7:∀x,x∈l→x<4294967296)(hm:(l.length:Int)≤8796093022208):
 Fn Tryz.prog 85 #[u] H (jy H (val l)):=by
 obtain⟨A,c,rfl,hc,hr⟩:=hu;refine aU (args:=[_]) Tryz.func85 rfl rfl Tryz.ntmps85 rfl rfl fun w0=> ?_;refine ah [0] rfl ?_;refine ae (aa 1 rfl (ab [0] ?_));refine ae (aa 1 rfl (ab [0,3] ?_));refine ae (aa 1 rfl (ab [0,3,4] ?_));refine ao (ae (aa 1 rfl (ab [0,3,4,5] ?_)));refine aD (oI (fun(k:Nat)(v:Value)(o:List Nat)(cr:Nat)=>l.length-k) (fun(k:Nat)(v:Value)(o:List Nat)(cr:Nat)=>put (put (put (put (emp) 0 (.val (.slice A l.length c))) 3 (.val (v))) 4 (.val (.int .u64 (cr:Int)))) 5 (.val (.int .i64 (k:Int)))) (fun(k:Nat)(v:Value)(o:List Nat)(cr:Nat) H'=>Heap.le H H'∧gZ H' v o∧k≤l.length∧o.length=k∧Lt o∧cr≤4∧val o+B^k*cr=val (l.take k)) 0 _ [] 0 (⟨.refl _,rb _,by omega,rfl,Lt.nil,by omega,by simp[val]⟩) av ?_);rintro k v o cr H1 ⟨hle,bS,hk,cK,cO,nK,hv⟩;obtain⟨Ao,co,rfl⟩:=bm.form bS;refine ao (ae (aa 4 rfl (ab [0,3,4,5,9] ?_)));refine az rfl (fun hb=> ?_) (fun hb=> ?_)
 ·
  have hb:k<l.length:=by simpa using hb
  obtain⟨p,hp⟩:∃p,l[k]? = some p:=⟨_,List.getElem?_eq_getElem hb⟩;have Sf:=s7 p (List.mem_of_getElem? hp);refine aw (ah [0,3,4,5] rfl ?_);refine ao (aD (ae (aa 3 rfl (a5 ag rfl rfl rfl rfl rfl (hr.le hle) (cA hp) (by omega) (by omega) fun _=>(ct ag rfl rfl rfl ⟨by omega,by omega⟩ (aJ rfl rfl ⟨by omega,by omega⟩ (aa 1 rfl (ab [0,3,4,5] ?_))))))));refine ae (aa 2 rfl (jR rfl rfl (by omega) (by omega) (ct ag rfl rfl rfl ⟨by omega,by omega⟩ (dD Tryz.underlying27 cR rfl rfl rfl rfl rfl rfl rfl ?_))));intro gb bO;refine eX Tryz.underlying27 cR rfl rfl (bS.ins _ bO) (mQ (y:=(cr+p)%1000000000) rfl) (rfl) (ks _) (by omega) (by omega) ?_;intro v1 H2 ha;refine aa 1 rfl (ab [0,3,4,5] ?_);refine aB rfl (aa 1 rfl (iY rfl rfl (by omega) (by omega) ⟨by omega,by omega⟩ (aa 1 rfl (ay (ah [0,3,4,5] rfl ?_)))));refine aB rfl (aa 1 rfl (aJ rfl rfl ⟨by omega,by omega⟩ (aa 1 rfl (ay ?_))));have cJ:=vy (s:=cr+p) (u:=val (l.take (k+1))) cK hv rfl (gY hp);exact⟨k+1,v1,o ++ [(cr+p)%B],(cr+p)/B,by omega,av,(hle.trans (Heap.bh _ bO)).trans ha.le,ha.lb rfl rfl,by omega,by simp[cK],cO.snoc (Nat.mod_lt _ jv),by rw[bt];omega,cJ⟩
 ·
  have hb:l.length≤k:=by simpa using hb
  obtain rfl:k=l.length:=by omega
  rw[List.take_length]at hv;refine bA (ah [3,4] rfl ?_);refine EY (fun(v:Value)(o:List Nat)=>put (emp) 3 (.val (v))) (fun(v:Value)(o:List Nat) H'=>Heap.le H H'∧gZ H' v o∧o.length≤l.length+1∧Lt o∧val o=val l) ?_ ?_
  ·
   refine ae (aa 2 rfl (ab [3,4,28] ?_));refine az rfl (fun hb=> ?_) (fun hb=> ?_)
   ·
    have hb:0<cr:=by simpa using hb
    refine aB rfl (aa 2 rfl (ct ag rfl rfl rfl ⟨by omega,by omega⟩ (dD Tryz.underlying27 cR rfl rfl rfl rfl rfl rfl rfl ?_)));intro gb bO;refine eX Tryz.underlying27 cR rfl rfl (bS.ins _ bO) (mQ (y:=cr) rfl) (rfl) (ks _) (by omega) (by omega) ?_;intro v1 H2 ha;refine aa 1 rfl (ay ?_);exact⟨v1,o ++ [cr],(by repeat (first | exact iG _ | refine dB rfl ?_ | refine dB (jc (by omega)) ?_)),(hle.trans (Heap.bh _ bO)).trans ha.le,ha.lb rfl rfl,by simp;omega,cO.snoc (by rw[bt];omega),by rw[mN,cK];exact hv⟩
   have hb:cr=0:=by simpa using hb
   refine aw ?_;exact⟨_,o,(by repeat (first | exact iG _ | refine dB rfl ?_ | refine dB (jc (by omega)) ?_)),hle,bS,by omega,cO,by rw[hb,Nat.mul_zero]at hv;omega⟩
  rintro v o H3 ⟨hle,bS,cK,cO,hv⟩;refine ae (aa 1 rfl (aq rfl rfl (uk bS.lR cO (by omega)) ?_));intro v1 H4 hp;refine aa 1 rfl (ab [2] ?_);refine ar ⟨.inr rfl,_,.tmp rfl (.nil),?_⟩;exact⟨hle.trans hp.le,by have:=hp.nat;rwa [hv]at this⟩
theorem ze{H:Heap}{x:Nat}(hx:x<18446744073709551616):
 Fn Tryz.prog 51 #[.int .u64 (x:Int)] H (jy H x):=by
 refine aU (args:=[_]) Tryz.func51 rfl rfl Tryz.ntmps51 rfl rfl fun w0=> ?_;refine ah [0] rfl ?_;refine ae (aa 1 rfl (ab [0] ?_));refine ae (aa 1 rfl (ab [0,3] ?_));refine ao (aD (ju (fun(y:Nat)(v:Value)(o:List Nat)=>y) (fun(y:Nat)(v:Value)(o:List Nat)=>put (put (emp) 0 (.val (.int .u64 (y:Int)))) 3 (.val (v))) (fun(y:Nat)(v:Value)(o:List Nat) H'=>Heap.le H H'∧gZ H' v o∧y≤x∧o++af y=af x) x (.slice none 0 0) [] (⟨.refl _,rb _,Nat.le_refl _,rfl⟩) av ?_));rintro y v o H1 ⟨hle,bS,pW,ho⟩;obtain⟨A,c,rfl⟩:=bm.form bS
 have cK:o.length≤(af x).length:=by rw[←ho];simp
 have ck:(af x).length≤3:=fW.2 (by rw[bt];omega);refine ao (ae (aa 2 rfl (ab [0,3,5] ?_)));refine az rfl (fun hb=> ?_) (fun hb=> ?_)
 ·
  have hb:0<y:=by simpa using hb
  refine aw (ah [0,3] rfl ?_);refine aD (ae (aa 2 rfl (jR rfl rfl (by omega) (by omega) (ct ag rfl rfl rfl ⟨by omega,by omega⟩ (dD Tryz.underlying27 cR rfl rfl rfl rfl rfl rfl rfl ?_)))));intro gb bO;refine eX Tryz.underlying27 cR rfl rfl (bS.ins _ bO) (mQ (JX y 1000000000)) (rfl) (ks _) (by omega) (by omega) ?_;intro v1 H2 ha;refine aa 1 rfl (ab [0,3] ?_);refine aB rfl (aa 1 rfl (iY rfl rfl (by omega) (by omega) ⟨by omega,by omega⟩ (aa 1 rfl (ay ?_))))
  have fE:0<y:=by omega
  rw[s4 fE]at ho;exact⟨y/B,v1,o ++ [y%B],Nat.div_lt_self fE (by decide),av,(hle.trans (Heap.bh _ bO)).trans ha.le,ha.lb rfl rfl,Nat.le_trans (Nat.div_le_self _ _) pW,by simpa using ho⟩
 ·
  have hb:y=0:=by simpa using hb
  refine bA (ah [3] rfl ?_);refine ae (aa 2 rfl (ab [2] ?_));refine ar ⟨.inr rfl,_,.tmp rfl (.nil),?_⟩;subst hb;exact⟨hle,vB (bS.lR) (by rw[show o=af x by simpa [nJ]using ho];exact dO x) (by rw[show o=af x by simpa [nJ]using ho];exact bX x)⟩
theorem C7{H:Heap}{u v:Value}{x y:Nat}(hx:cn H u x)(hy:cn H v y)(hm:((af x).length:Int)≤35184372088832):
 Fn Tryz.prog 98 #[u,v] H (mU H (.int .i64 (gN x y))):=by
 obtain⟨A,c,rfl,hc,hr⟩:=hx
 obtain⟨A',c',rfl,gA,cF⟩:=hy;refine aU (args:=[_,_]) Tryz.func98 rfl rfl Tryz.ntmps98 rfl rfl fun w0=> ?_;refine ah [0,1] rfl ?_;refine ae (aa 1 rfl (ab [0,1] ?_));refine ao (ae (aa 5 rfl (ab [0,1,10] ?_)));refine az rfl (fun hb=> ?_) (fun hb=> ?_)
 ·
  have hl:(af x).length≠(af y).length:=by simp at hb;omega
  refine ao (ae (aa 5 rfl (ab [15] ?_)));refine az rfl (fun hb=> ?_) (fun hb=> ?_)
  ·
   simp at hb
   refine ae (aa 1 rfl (ab [4] ?_));refine ar ⟨.inr rfl,_,.tmp rfl (.nil),?_⟩;exact⟨rfl,by rw[BJ (BL hb)];rfl⟩
  ·
   simp at hb
   refine aw (ah [] rfl ?_);refine ae (aa 1 rfl (ab [4] ?_));refine ar ⟨.inr rfl,_,.tmp rfl (.nil),?_⟩;exact⟨rfl,by rw[BK (BL (by omega))];rfl⟩
 ·
  have hl:(af x).length=(af y).length:=by simp at hb;omega
  refine aw (ah [0,1] rfl ?_);refine ao (ae (aa 2 rfl (cY rfl rfl ⟨by omega,by omega⟩ (aa 1 rfl (ab [0,1,5] ?_)))));refine aD (gm (fun(k:Nat)=>k) (fun(k:Nat)=>put (put (put (emp) 0 (.val (.slice A (af x).length c))) 1 (.val (.slice A' (af y).length c'))) 5 (.val (.int .i64 ((k:Int)-1)))) (fun(k:Nat) H'=>H'=H∧k≤(af x).length∧(af x).drop k=(af y).drop k) (af x).length (⟨rfl,Nat.le_refl _,by rw[List.drop_of_length_le (Nat.le_refl _),List.drop_of_length_le (by omega)]⟩) av ?_);rintro k H1 ⟨rfl,hk,hd⟩;refine ao (ae (aa 2 rfl (ab [0,1,5,20] ?_)));refine az rfl (fun hb=> ?_) (fun hb=> ?_)
  ·
   simp at hb
   obtain⟨p,hp⟩:∃p,(af x)[k-1]? = some p:=⟨_,List.getElem?_eq_getElem (by omega)⟩;obtain⟨q,hq⟩:∃q,(af y)[k-1]? = some q:=⟨_,List.getElem?_eq_getElem (by omega)⟩
   have hj:((k:Int)-1).toNat=k-1:=by omega
   have dX:(af x).drop (k-1+1)=(af y).drop (k-1+1):=by rw[show k-1+1=k by omega];exact hd
   refine aw (ah [0,1,5] rfl ?_);refine ao (aD (ao (bT .bN [0,1,2,3,4,5,6,7,8] follows (by kernel_rfl) ?_)));refine aa 2 rfl (a5 ag rfl rfl rfl rfl rfl (hr) (by rw[hj];exact cA hp) (by omega) (by omega) fun _=> ?_);refine aa 2 rfl (a5 ag rfl rfl rfl rfl rfl (cF) (by rw[hj];exact cA hq) (by omega) (by omega) fun _=> ?_);refine aa 1 rfl (ab [0,1,5,31] ?_);refine az rfl (fun hb=> ?_) (fun hb=> ?_)
   ·
    have jw:p<q:=by simpa using hb
    refine ae (aa 1 rfl (ab [4] ?_));refine ar ⟨.inr rfl,_,.tmp rfl (.nil),?_⟩;exact⟨rfl,by rw[BJ (by have:=BI (dO x).lt hp hq dX jw;rwa [bX,bX]at this)];rfl⟩
   have jw:¬p<q:=by simpa using hb
   refine aw (ah [0,1,5] rfl ?_);refine bT .bN [0,1,2,3,4,5,6,7,8] follows (by kernel_rfl) ?_;refine aa 2 rfl (a5 ag rfl rfl rfl rfl rfl (hr) (by rw[hj];exact cA hp) (by omega) (by omega) fun _=> ?_);refine aa 2 rfl (a5 ag rfl rfl rfl rfl rfl (cF) (by rw[hj];exact cA hq) (by omega) (by omega) fun _=> ?_);refine aa 1 rfl (ab [0,1,5,40] ?_);refine az rfl (fun hb=> ?_) (fun hb=> ?_)
   ·
    have xV:q<p:=by simpa using hb
    refine ae (aa 1 rfl (ab [4] ?_));refine ar ⟨.inr rfl,_,.tmp rfl (.nil),?_⟩;exact⟨rfl,by rw[BK (by have:=BI (dO y).lt hq hp dX.symm xV;rwa [bX,bX]at this)];rfl⟩
   have xV:¬q<p:=by simpa using hb
   refine aw (ah [0,1,5] rfl ?_);refine aB rfl (aa 1 rfl (cY rfl rfl ⟨by omega,by omega⟩ (aa 1 rfl (ay ?_))))
   obtain rfl:p=q:=by omega
   exact⟨k-1,by omega,av,rfl,by omega,JT (by omega) hp hq hd⟩
  simp at hb
  refine bA (ah [] rfl ?_);refine ae (aa 1 rfl (ab [4] ?_));refine ar ⟨.inr rfl,_,.tmp rfl (.nil),?_⟩
  obtain rfl:k=0:=by omega
  have:x=y:=by rw[←bX x,←bX y];simpa using congrArg val hd
  exact⟨rfl,by rw[this,JS];rfl⟩
end Go.au
namespace Go.au
open Go.Proofs Num
theorem C8{l:List Nat}(h:Lt l)(k:Nat):(l[k]?).getD 0<1000000000:=by
 cases hq:l[k]? with
 | none=>simp
 | some z=>have:=h.get hq;rw[bt]at this;simpa using this
theorem getD_some{l:List Nat}{k e:Nat}(he:e=(l[k]?).getD 0)(h:k<l.length):l[k]? = some e:=by
 rw[List.getElem?_eq_getElem h]at he⊢;simp at he;rw[he]
theorem getD_none{l:List Nat}{k e:Nat}(he:e=(l[k]?).getD 0)(h:l.length≤k):e=0:=by
 rw[he,List.getElem?_eq_none h];rfl
theorem Vv{H:Heap}{u v:Value}{x y:Nat}(hx:cn H u x)(hy:cn H v y)(hm:((af x).length:Int)≤8796093022208)(aS:((af y).length:Int)≤8796093022208):
 Fn Tryz.prog 97 #[u,v] H (jy H (x+y)):=by
 obtain⟨A,c,rfl,hc,hr⟩:=hx
 obtain⟨A',c',rfl,gA,cF⟩:=hy
 have fJ:=(dO x).lt
 have eh:=(dO y).lt
 obtain⟨M,hM⟩:∃M,M=max (af x).length (af y).length:=⟨_,rfl⟩;refine aU (args:=[_,_]) Tryz.func97 rfl rfl Tryz.ntmps97 rfl rfl fun w0=> ?_;refine ah [0,1] rfl ?_;refine ae (aa 1 rfl (ab [0,1] ?_));refine ae (aa 1 rfl (ab [0,1,5] ?_));refine ae (aa 1 rfl (ab [0,1,5,6] ?_));refine ao (ae (aa 1 rfl (ab [0,1,5,6,7] ?_)));refine aD (oI (fun(k:Nat)(v:Value)(o:List Nat)(cr:Nat)=>M+1-k) (fun(k:Nat)(v:Value)(o:List Nat)(cr:Nat)=>put (put (put (put (put (emp) 0 (.val (.slice A (af x).length c))) 1 (.val (.slice A' (af y).length c'))) 5 (.val (v))) 6 (.val (.int .u32 (cr:Int)))) 7 (.val (.int .i64 (k:Int)))) (fun(k:Nat)(v:Value)(o:List Nat)(cr:Nat) H'=>Heap.le H H'∧gZ H' v o∧k≤M+1∧o.length=k∧Lt o∧cr≤1∧val o+B^k*cr=val ((af x).take k)+val ((af y).take k)∧(k=M+1→cr=0∧B^M≤val o)) 0 _ [] 0 (⟨.refl _,rb _,by omega,rfl,Lt.nil,by omega,by simp[val],by omega⟩) av ?_);rintro k v o cr H1 ⟨hle,bS,hk,cK,cO,nK,hv,Gg⟩;obtain⟨Ao,co,rfl⟩:=bm.form bS;refine EX (put (put (put (put (put (emp) 0 (.val (.slice A (af x).length c))) 1 (.val (.slice A' (af y).length c'))) 5 (.val (.slice Ao o.length co))) 6 (.val (.int .u32 (cr:Int)))) 7 (.val (.int .i64 (k:Int)))) (fun H'=>H'=H1∧k≤M∧(k<(af x).length∨k<(af y).length∨0<cr)) ?_ ?_
 ·
  by_cases j3:k<(af x).length
  ·
   skip
   refine ae (aa 3 rfl (ax true rfl rfl (mP (by omega)) (aa 10 rfl (ab [0,1,5,6,7,22] ?_))));refine cI rfl (aw ?_);exact⟨av,rfl,by omega,.inl j3⟩
  ·
   by_cases me:k<(af y).length
   skip
   ·
    skip
    refine ae (aa 3 rfl (ax false rfl rfl (jx (by omega)) (aa 4 rfl (ax true rfl rfl (mP (by omega)) (aa 5 rfl (ab [0,1,5,6,7,22] ?_))))));refine cI rfl (aw ?_);exact⟨av,rfl,by omega,.inr (.inl me)⟩
   skip
   refine ae (aa 3 rfl (ax false rfl rfl (jx (by omega)) (aa 4 rfl (ax false rfl rfl (jx (by omega)) (aa 5 rfl (ab [0,1,5,6,7,22] ?_))))));refine az rfl (fun hb=> ?_) (fun hb=> ?_)
   ·
    have hb:0<cr:=by simpa using hb
    refine aw ?_;exact⟨av,rfl,by omega,.inr (.inr hb)⟩
   have hb:cr=0:=by simpa using hb
   refine bA (ah [5] rfl ?_);refine ae (aa 2 rfl (ab [4] ?_));refine ar ⟨.inr rfl,_,.tmp rfl (.nil),?_⟩;subst hb;rw[Nat.mul_zero,Nat.add_zero,List.take_of_length_le (by omega),List.take_of_length_le (by omega),bX,bX]at hv;refine⟨hle,vB bS.lR (last_pos cO cK ?_) hv⟩
   rcases Nat.eq_zero_or_pos k with e | e
   ·exact .inl e
   right
   by_cases h1:k=M+1
   ·
    have:=(Gg h1).2;rw[show k-1=M by omega];exact this
   have h2:k=M:=by omega
   rw[hv]
   rcases Nat.le_total (af x).length (af y).length with h3 | h3
   ·
    have h4:k=(af y).length:=by omega
    have h5:=Fk (y:=y) (Nat.pos_of_ne_zero fun e0=>by rw[gC.2 e0]at h4;omega);rw[h4];omega
   have h4:k=(af x).length:=by omega
   have h5:=Fk (y:=x) (Nat.pos_of_ne_zero fun e0=>by rw[gC.2 e0]at h4;omega);rw[h4];omega
 ·
  rintro H2 ⟨rfl,hkM,aax⟩;obtain⟨da,zf⟩:∃e,e=((af x)[k]?).getD 0:=⟨_,rfl⟩;obtain⟨db,nz⟩:∃e,e=((af y)[k]?).getD 0:=⟨_,rfl⟩
  have aay:da<1000000000:=by rw[zf];exact C8 fJ k
  have aaz:db<1000000000:=by rw[nz];exact C8 eh k
  refine ao (aD (ae (aa 2 rfl (ab [0,1,5,7,8] ?_))));refine nH (fun(sv:Int)=>put (put (put (put (put (emp) 0 (.val (.slice A (af x).length c))) 1 (.val (.slice A' (af y).length c'))) 5 (.val (.slice Ao o.length co))) 7 (.val (.int .i64 (k:Int)))) 8 (.val (.int .u32 sv))) (fun(sv:Int) H'=>H'=H2∧sv=(cr:Int)+da) ?_ ?_
  ·
   refine ae (aa 4 rfl (ab [0,1,5,7,8,29] ?_));refine az rfl (fun hb=> ?_) (fun hb=> ?_)
   ·
    have hb:k<(af x).length:=by simpa using hb
    have hz:=getD_some zf hb;refine aB rfl (aa 3 rfl (a5 ag rfl rfl rfl rfl rfl (hr.le hle) (cA hz) (by omega) (by omega) fun _=>(aJ rfl rfl ⟨by omega,by omega⟩ (aa 1 rfl (ay ?_)))));exact⟨(cr:Int)+da,av,rfl,rfl⟩
   have hb:(af x).length≤k:=by simpa using hb
   have hz:=getD_none zf hb;refine aw ?_;exact⟨(cr:Int),av,rfl,by omega⟩
  rintro sv H3 ⟨rfl,lS⟩;refine nH (fun(C9:Int)=>put (put (put (put (put (emp) 0 (.val (.slice A (af x).length c))) 1 (.val (.slice A' (af y).length c'))) 5 (.val (.slice Ao o.length co))) 7 (.val (.int .i64 (k:Int)))) 8 (.val (.int .u32 C9))) (fun(C9:Int) H'=>H'=H3∧C9=(cr:Int)+da+db) ?_ ?_
  ·
   refine ae (aa 4 rfl (ab [0,1,5,7,8,39] ?_));refine az rfl (fun hb=> ?_) (fun hb=> ?_)
   ·
    have hb:k<(af y).length:=by simpa using hb
    have hz:=getD_some nz hb;refine aB rfl (aa 3 rfl (a5 ag rfl rfl rfl rfl rfl (cF.le hle) (cA hz) (by omega) (by omega) fun _=>(aJ rfl rfl ⟨by omega,by omega⟩ (aa 1 rfl (ay ?_)))));exact⟨sv+db,av,rfl,by omega⟩
   have hb:(af y).length≤k:=by simpa using hb
   have hz:=getD_none nz hb;refine aw ?_;exact⟨sv,av,rfl,by omega⟩
  rintro C9 H4 ⟨rfl,aaA⟩;refine ae (aa 1 rfl (iY rfl rfl (by omega) (by omega) ⟨by omega,by omega⟩ (aa 1 rfl (ab [0,1,5,6,7,8] ?_))));refine aB rfl (aa 2 rfl (jR rfl rfl (by omega) (by omega) (dD Tryz.underlying27 cR rfl rfl rfl rfl rfl rfl rfl ?_)));intro gb bO;refine eX Tryz.underlying27 cR rfl rfl (bS.ins _ bO) (mQ (y:=(cr+da+db)%1000000000) (by omega)) (rfl) (ks _) (by omega) (by omega) ?_;intro v1 H5 ha;refine aa 1 rfl (ay (ah [0,1,5,6,7] rfl ?_));refine aB rfl (aa 1 rfl (aJ rfl rfl ⟨by omega,by omega⟩ (aa 1 rfl (ay ?_))));have cJ:=vy (s:=cr+da+db) (a:=cr) (b:=da+db) (u:=val ((af x).take (k+1))+val ((af y).take (k+1))) cK hv (by omega) (by rw[ra,ra,←zf,←nz,Nat.mul_add];omega);refine⟨k+1,v1,o ++ [(cr+da+db)%B],(cr+da+db)/1000000000,by omega,av,(hle.trans (Heap.bh _ bO)).trans ha.le,ha.lb rfl rfl,by omega,by simp[cK],cO.snoc (Nat.mod_lt _ jv),by omega,cJ,fun e=> ?_⟩;have h1:=getD_none zf (by omega);have h2:=getD_none nz (by omega)
  obtain rfl:k=M:=by omega
  have h3:cr=1:=by omega
  subst h1 h2 h3;rw[mN,cK,show (1+0+0)%B=1 from rfl,show (1+0+0)/1000000000=0 from rfl];exact⟨rfl,by omega⟩
end Go.au
namespace Go.au
open Go.Proofs Num
theorem Da{H:Heap}{u v:Value}{x y:Nat}(hx:cn H u x)(hy:cn H v y)(pW:y≤x)(hm:((af x).length:Int)≤8796093022208):
 Fn Tryz.prog 99 #[u,v] H (jy H (x-y)):=by
 obtain⟨A,c,rfl,hc,hr⟩:=hx
 obtain⟨A',c',rfl,gA,cF⟩:=hy
 have fJ:=(dO x).lt
 have eh:=(dO y).lt
 have hl:=jd pW;refine aU (args:=[_,_]) Tryz.func99 rfl rfl Tryz.ntmps99 rfl rfl fun w0=> ?_;refine ah [0,1] rfl ?_;refine ae (aa 1 rfl (ab [0,1] ?_));refine ae (aa 2 rfl (ja Tryz.underlying27 cR rfl rfl rfl (by omega) (by omega) (by omega) (by omega) ?_));intro g hg;rw[show (((af x).length:Int)).toNat=(af x).length from by omega,rf];have lT:=fun e=>hr.le (Heap.bh (g:=g) e hg);have xX:=fun e=>cF.le (Heap.bh (g:=g) e hg);refine aa 1 rfl (ab [0,1,5] ?_);refine ae (aa 1 rfl (ab [0,1,5,6] ?_));refine ao (ae (aa 1 rfl (ab [0,1,5,6,7] ?_)));refine aD (ju (fun(k:Nat)(o:List Nat)(br:Nat)=>(af x).length-k) (fun(k:Nat)(o:List Nat)(br:Nat)=>put (put (put (put (put (emp) 0 (.val (.slice A (af x).length c))) 1 (.val (.slice A' (af y).length c'))) 5 (.val (.slice (some ⟨g,0,none⟩) (af x).length (af x).length))) 6 (.val (.int .u32 (br:Int)))) 7 (.val (.int .i64 (k:Int)))) (fun(k:Nat)(o:List Nat)(br:Nat) H'=>H'=ins H g (cC o (af x).length)∧k≤(af x).length∧o.length=(af x).length∧Lt o∧br≤1∧val ((af x).take k)+B^k*br=val (o.take k)+val ((af y).take k)) 0 _ 0 (⟨rfl,by omega,by simp,Lt.replicate _,by omega,by simp[val]⟩) av ?_)
 rintro k o br H1 ⟨rfl,hk,cK,cO,oQ,hv⟩;refine ao (ae (aa 4 rfl (ab [0,1,5,6,7,15] ?_)));refine az rfl (fun hb=> ?_) (fun hb=> ?_)
 ·
  have hb:k<(af x).length:=by simpa using hb
  obtain⟨d,hd⟩:∃d,(af x)[k]? = some d:=⟨_,List.getElem?_eq_getElem hb⟩;have iK:=fJ.get hd;rw[bt]at iK;obtain⟨e,he⟩:∃e,e=((af y)[k]?).getD 0:=⟨_,rfl⟩
  have vC:e<1000000000:=by rw[he];exact C8 eh k
  refine aw (ah [0,1,5,6,7] rfl ?_);refine ao (aD (ae (aa 2 rfl (ab [0,1,5,7,8] ?_))));refine nH (fun(sv:Int)=>put (put (put (put (put (emp) 0 (.val (.slice A (af x).length c))) 1 (.val (.slice A' (af y).length c'))) 5 (.val (.slice (some ⟨g,0,none⟩) (af x).length (af x).length))) 7 (.val (.int .i64 (k:Int)))) 8 (.val (.int .u32 sv))) (fun(sv:Int) H'=>H'=ins H g (cC o (af x).length)∧sv=(br:Int)+e) ?_ ?_
  ·
   refine ae (aa 4 rfl (ab [0,1,5,7,8,22] ?_));refine az rfl (fun hb=> ?_) (fun hb=> ?_)
   ·
    have hb:k<(af y).length:=by simpa using hb
    have hz:=getD_some he hb;refine aB rfl (aa 3 rfl (a5 ag rfl rfl rfl rfl rfl (xX _) (cA hz) (by omega) (by omega) fun _=>(aJ rfl rfl ⟨by omega,by omega⟩ (aa 1 rfl (ay ?_)))));exact⟨(br:Int)+e,av,rfl,rfl⟩
   have hb:(af y).length≤k:=by simpa using hb
   have hz:=getD_none he hb;refine aw ?_;exact⟨(br:Int),av,rfl,by omega⟩
  ·
   rintro sv H4 ⟨rfl,lS⟩;refine ae (aa 2 rfl (a5 ag rfl rfl rfl rfl rfl (lT _) (cA hd) (by omega) (by omega) fun _=>(aa 2 rfl (ab [0,1,5,7,8,34] ?_))));refine az rfl (fun hb=> ?_) (fun hb=> ?_)
   ·
    have hb:sv≤d:=by simpa using hb
    refine aB rfl (aa 4 rfl (a5 ag rfl rfl rfl rfl rfl (lT _) (cA hd) (by omega) (by omega) fun _=>(aa 1 rfl (cY rfl rfl ⟨by omega,by omega⟩ ?_))));obtain⟨ti,aj,ak⟩:=kp;refine dE (.inl rfl) ag rfl rfl rfl (by omega) (by omega) (bn _ _ _) rfl (by rw[kt];omega) aj ak (fun _=>rfl) rfl rfl rfl fun _=> ?_;refine aa 1 rfl (ay (ah [0,1,5,6,7] rfl ?_));refine aB rfl (aa 1 rfl (aJ rfl rfl ⟨by omega,by omega⟩ (aa 1 rfl (ay ?_))));have cJ:=xS (o:=o.take k) (s:=d-br-e) (br':=0) (d:=d) (e:=e) (by simp;omega) hv (by omega) (gY hd) (show val ((af y).take (k+1))=val ((af y).take k)+B^k*e by rw[ra,←he]);rw[←rh (by omega)]at cJ;exact⟨k+1,o.set k (d-br-e),0,by omega,av,by rw[oO (y:=d-br-e) (by omega)];rfl,by omega,by simp[cK],cO.set (by rw[bt];omega),by omega,cJ⟩
   have hb:(d:Int)<sv:=by simpa using hb
   refine aB rfl (aa 4 rfl (a5 ag rfl rfl rfl rfl rfl (lT _) (cA hd) (by omega) (by omega) fun _=>(aJ rfl rfl ⟨by omega,by omega⟩ (aa 1 rfl (cY rfl rfl ⟨by omega,by omega⟩ ?_)))));obtain⟨ti,aj,ak⟩:=kp;refine dE (.inl rfl) ag rfl rfl rfl (by omega) (by omega) (bn _ _ _) rfl (by rw[kt];omega) aj ak (fun _=>rfl) rfl rfl rfl fun _=> ?_;refine aa 1 rfl (ay (ah [0,1,5,6,7] rfl ?_));refine aB rfl (aa 1 rfl (aJ rfl rfl ⟨by omega,by omega⟩ (aa 1 rfl (ay ?_))));have cJ:=xS (o:=o.take k) (s:=d+1000000000-br-e) (br':=1) (d:=d) (e:=e) (by simp;omega) hv (by rw[bt];omega) (gY hd) (show val ((af y).take (k+1))=val ((af y).take k)+B^k*e by rw[ra,←he]);rw[←rh (by omega)]at cJ;exact⟨k+1,o.set k (d+1000000000-br-e),1,by omega,av,by rw[oO (y:=d+1000000000-br-e) (by omega)];rfl,by omega,by simp[cK],cO.set (by rw[bt];omega),by omega,cJ⟩
 ·
  have hb:(af x).length≤k:=by simpa using hb
  obtain rfl:k=(af x).length:=by omega
  rw[List.take_length,List.take_of_length_le hl,bX,bX,List.take_of_length_le (by omega)]at hv;have s8:=oL cO;rw[cK]at s8
  have E9:br=0:=by
   rcases Nat.eq_zero_or_pos br with h|h
   ·exact h
   ·
    obtain rfl:br=1:=by omega
    omega
  refine bA (ah [5] rfl ?_);refine ae (aa 1 rfl (aq rfl rfl (uk (s6 _ _ o _ _ cK.symm (Nat.le_refl _)) cO (by omega)) ?_));intro v1 H4 hp;refine aa 1 rfl (ab [4] ?_);refine ar ⟨.inr rfl,_,.tmp rfl (.nil),?_⟩;exact⟨(Heap.bh _ hg).trans hp.le,by have:=hp.nat;rwa [show val o=x-y by rw[E9]at hv;omega]at this⟩
theorem uo{H:Heap}{u v:Value}{x y:Nat}(hx:cn H u x)(hy:cn H v y)(hm:((af x).length:Int)<8796093022208)(aS:((af y).length:Int)<8796093022208):
 Fn Tryz.prog 88 #[u,v] H (jy H (x*y)):=by
 obtain⟨A,c,rfl,hc,hr⟩:=hx
 obtain⟨A',c',rfl,gA,cF⟩:=hy
 have fJ:=(dO x).lt
 have eh:=(dO y).lt;refine aU (args:=[_,_]) Tryz.func88 rfl rfl Tryz.ntmps88 rfl rfl fun w0=> ?_;refine ah [0,1] rfl ?_;refine ae (aa 1 rfl (ab [0,1] ?_));refine ae (aa 4 rfl (aJ rfl rfl ⟨by omega,by omega⟩ (aJ rfl rfl ⟨by omega,by omega⟩ (ja Tryz.underlying27 cR rfl rfl rfl (by omega) (by omega) (by omega) (by omega) ?_))));intro g hg;rw[show (((af x).length:Int)+((af y).length:Int)+1).toNat=((af x).length+(af y).length+1)from by omega,rf];have lT:=fun e=>hr.le (Heap.bh (g:=g) e hg);have xX:=fun e=>cF.le (Heap.bh (g:=g) e hg);refine aa 1 rfl (ab [0,1,5] ?_);refine ao (ae (aa 1 rfl (ab [0,1,5,6] ?_)));refine aD (jb (fun(i:Nat)(o:List Nat)=>(af x).length-i) (fun(i:Nat)(o:List Nat)=>put (put (put (put (emp) 0 (.val (.slice A (af x).length c))) 1 (.val (.slice A' (af y).length c'))) 5 (.val (.slice (some ⟨g,0,none⟩) ((af x).length+(af y).length+1) ((af x).length+(af y).length+1)))) 6 (.val (.int .i64 (i:Int)))) (fun(i:Nat)(o:List Nat) H'=>H'=ins H g (cC o ((af x).length+(af y).length+1))∧i≤(af x).length∧o.length=((af x).length+(af y).length+1)∧Lt o∧mS o (i+(af y).length)∧val o=val ((af x).take i)*y) 0 _ (⟨rfl,by omega,by simp,Lt.replicate _,J6 _ _,by simp[val,JV]⟩) av ?_)
 rintro i o H1 ⟨rfl,hi,cK,cO,hz,hv⟩;refine ao (ae (aa 4 rfl (ab [0,1,5,6,19] ?_)));refine az rfl (fun hb=> ?_) (fun hb=> ?_)
 ·
  have hb:i<(af x).length:=by simpa using hb
  obtain⟨d,hd⟩:∃d,(af x)[i]? = some d:=⟨_,List.getElem?_eq_getElem hb⟩;have iK:=fJ.get hd;rw[bt]at iK;refine aw (ah [0,1,5,6] rfl ?_);refine ao (aD (ae (aa 1 rfl (ab [0,1,5,6,7] ?_))));refine ae (aa 1 rfl (ab [0,1,5,6,7,8] ?_));refine aD (ju (fun(j:Nat)(o2:List Nat)(cr:Nat)=>(af y).length+1-j) (fun(j:Nat)(o2:List Nat)(cr:Nat)=>put (put (put (put (put (put (emp) 0 (.val (.slice A (af x).length c))) 1 (.val (.slice A' (af y).length c'))) 5 (.val (.slice (some ⟨g,0,none⟩) ((af x).length+(af y).length+1) ((af x).length+(af y).length+1)))) 6 (.val (.int .i64 (i:Int)))) 7 (.val (.int .u64 (cr:Int)))) 8 (.val (.int .i64 (j:Int)))) (fun(j:Nat)(o2:List Nat)(cr:Nat) H'=>H'=ins H g (cC o2 ((af x).length+(af y).length+1))∧j≤(af y).length+1∧o2.length=((af x).length+(af y).length+1)∧Lt o2∧cr<1000000000∧mS o2 (i+(af y).length+1)∧(j≤(af y).length→mS o2 (i+(af y).length))∧(j=(af y).length+1→cr=0)∧val o2+B^(i+j)*cr=val ((af x).take i)*y+B^i*d*val ((af y).take j)) 0 o 0 (⟨rfl,by omega,cK,cO,by omega,fun t z ht=>hz t z (by omega),fun _=>hz,by omega,by simp[val,hv]⟩) av ?_);rintro j o2 cr H1 ⟨rfl,hj,xY,tc,nK,g8,yT,pZ,cZ⟩
  refine EX (put (put (put (put (put (put (emp) 0 (.val (.slice A (af x).length c))) 1 (.val (.slice A' (af y).length c'))) 5 (.val (.slice (some ⟨g,0,none⟩) ((af x).length+(af y).length+1) ((af x).length+(af y).length+1)))) 6 (.val (.int .i64 (i:Int)))) 7 (.val (.int .u64 (cr:Int)))) 8 (.val (.int .i64 (j:Int)))) (fun H'=>H'=ins H g (cC o2 ((af x).length+(af y).length+1))∧j≤(af y).length) ?_ ?_
  ·
   by_cases hjb:j<(af y).length
   ·
    skip
    refine ae (aa 3 rfl (ax true rfl rfl (mP (by omega)) (aa 4 rfl (ab [0,1,5,6,7,8,29] ?_))));refine cI rfl (aw ?_);exact⟨av,rfl,by omega⟩
   skip
   refine ae (aa 3 rfl (ax false rfl rfl (jx (by omega)) (aa 4 rfl (ab [0,1,5,6,7,8,29] ?_))));refine az rfl (fun hb=> ?_) (fun hb=> ?_)
   ·
    have hb:0<cr:=by simpa using hb
    refine aw ?_;exact⟨av,rfl,by omega⟩
   have hb:cr=0:=by simpa using hb
   subst hb;rw[List.take_of_length_le (l:=af y) (i:=j) (by omega),bX,Nat.mul_zero,Nat.add_zero]at cZ;refine bA (ah [0,1,5,6] rfl ?_);refine aB rfl (aa 1 rfl (aJ rfl rfl ⟨by omega,by omega⟩ (aa 1 rfl (ay ?_))));refine⟨i+1,o2,by omega,av,rfl,by omega,xY,tc,by rw[Nat.add_right_comm];exact g8,?_⟩;rw[gY hd,Nat.add_mul]
   omega
  ·
   rintro H4 ⟨rfl,L2⟩;obtain⟨p,hp⟩:∃p,p=((af y)[j]?).getD 0:=⟨_,rfl⟩
   have re:p<1000000000:=by rw[hp];exact C8 eh j
   obtain⟨e,he⟩:∃e,o2[i+j]? = some e:=⟨_,List.getElem?_eq_getElem (by omega)⟩;have vC:=tc.get he;rw[bt]at vC
   have xZ:((i:Int)+(j:Int)).toNat=i+j:=by omega
   have J3:d*p≤999999999*999999999:=Nat.mul_le_mul (by omega) (by omega)
   have J4:(d:Int)*(p:Int)=((d*p:Nat):Int):=by simp
   refine ao (aD (ae (aa 4 rfl (aJ rfl rfl ⟨by omega,by omega⟩ (a5 ag rfl rfl rfl rfl rfl (BO _ _ _ _) (by rw[xZ];exact cA he) (by omega) (by omega) fun _=> ?_)))));refine ct ag rfl rfl rfl ⟨by omega,by omega⟩ (aJ rfl rfl ⟨by omega,by omega⟩ (aa 1 rfl (ab [0,1,5,6,7,8] ?_)));refine nH (fun(sv:Int)=>put (put (put (put (put (put (emp) 0 (.val (.slice A (af x).length c))) 1 (.val (.slice A' (af y).length c'))) 5 (.val (.slice (some ⟨g,0,none⟩) ((af x).length+(af y).length+1) ((af x).length+(af y).length+1)))) 6 (.val (.int .i64 (i:Int)))) 7 (.val (.int .u64 sv))) 8 (.val (.int .i64 (j:Int)))) (fun(sv:Int) H'=>H'=ins H g (cC o2 ((af x).length+(af y).length+1))∧sv=((d*p+e+cr:Nat):Int)) ?_ ?_
   ·
    refine ae (aa 4 rfl (ab [0,1,5,6,7,8,44] ?_));refine az rfl (fun hb=> ?_) (fun hb=> ?_)
    ·
     have hb:j<(af y).length:=by simpa using hb
     have e9:=getD_some hp hb;refine fk .bN [0,1,2,3,4,5,6,7,8,9,10,11,12,13] follows (by kernel_rfl) ?_;refine aa 3 rfl (a5 ag rfl rfl rfl rfl rfl (lT _) (cA hd) (by omega) (by omega) fun _=>(ct ag rfl rfl rfl ⟨by omega,by omega⟩ (aa 2 rfl (a5 ag rfl rfl rfl rfl rfl (xX _) (cA e9) (by omega) (by omega) fun _=>(ct ag rfl rfl rfl ⟨by omega,by omega⟩ (gB rfl rfl ⟨by omega,by omega⟩ (aJ rfl rfl ⟨by omega,by omega⟩ (aa 1 rfl (ay ?_)))))))));exact⟨((d*p+e+cr:Nat):Int),av,rfl,rfl⟩
    have hb:(af y).length≤j:=by simpa using hb
    have e9:=getD_none hp hb
    have FY:d*p=0:=by rw[e9,Nat.mul_zero]
    refine aw ?_;exact⟨((d*p+e+cr:Nat):Int),av,rfl,rfl⟩
   rintro sv H4 ⟨rfl,lS⟩;refine ae (aa 3 rfl (aJ rfl rfl ⟨by omega,by omega⟩ (aa 1 rfl (jR rfl rfl (by omega) (by omega) (ct ag rfl rfl rfl ⟨by omega,by omega⟩ ?_)))));obtain⟨ti,aj,ak⟩:=kp;refine dE (.inl rfl) ag rfl rfl rfl (by omega) (by omega) (bn _ _ _) rfl (by rw[kt];omega) aj ak (fun _=>rfl) rfl rfl rfl fun _=> ?_;refine ab [0,1,5,6,7,8] ?_;refine aB rfl (aa 1 rfl (iY rfl rfl (by omega) (by omega) ⟨by omega,by omega⟩ (aa 1 rfl (ay (ah [0,1,5,6,7,8] rfl ?_)))));refine aB rfl (aa 1 rfl (aJ rfl rfl ⟨by omega,by omega⟩ (aa 1 rfl (ay ?_))));refine⟨j+1,o2.set (i+j) ((d*p+e+cr)%B),(d*p+e+cr)/1000000000,by omega,av,by rw[oO (y:=(d*p+e+cr)%B) (by rw[bt];omega),xZ],by omega,by simp[xY],tc.set (Nat.mod_lt _ jv),by omega,g8.set (by omega),fun h=>(yT (by omega)).set (by omega),fun h=> ?_,?_⟩
   ·
    have h1:=getD_none hp (by omega);have h2:=yT (by omega) (i+j) e (by omega) he;subst h1 h2
    omega
   rw[ra,←hp];exact J7 he cZ rfl
 ·
  have hb:(af x).length≤i:=by simpa using hb
  obtain rfl:i=(af x).length:=by omega
  rw[List.take_length,bX]at hv;refine bA (ah [5] rfl ?_);refine ae (aa 1 rfl (aq rfl rfl (uk (s6 _ _ o _ _ cK.symm (Nat.le_refl _)) cO (by omega)) ?_));intro v1 H4 hp;refine aa 1 rfl (ab [4] ?_);refine ar ⟨.inr rfl,_,.tmp rfl (.nil),?_⟩;exact⟨(Heap.bh _ hg).trans hp.le,by have:=hp.nat;rwa [hv]at this⟩
theorem Vw{H:Heap}{u:Value}{l:List Nat}{m:Nat}(hu:fI H u l)(hl:Lt l)(hm:m<1000000000)(xW:0<m)(hs:(l.length:Int)≤8796093022208):
 Fn Tryz.prog 108 #[u,.int .u64 (m:Int)] H (fun v H'=>Heap.le H H'∧∃q,v = .tuple #[q,.int .u64 ((val l%m:Nat):Int)]∧cn H' q (val l/m)):=by
 obtain⟨A,c,rfl,hc,hr⟩:=hu;refine aU (args:=[_,_]) Tryz.func108 rfl rfl Tryz.ntmps108 rfl rfl fun w0=> ?_;refine ah [0,1] rfl ?_;refine ae (aa 2 rfl (ab [0,1] ?_));refine ae (aa 2 rfl (ja Tryz.underlying27 cR rfl rfl rfl (by omega) (by omega) (by omega) (by omega) ?_));intro g hg;rw[show ((l.length:Int)).toNat=l.length from by omega,rf];have lT:=fun e=>hr.le (Heap.bh (g:=g) e hg);refine aa 1 rfl (ab [0,1,6] ?_);refine ae (aa 1 rfl (ab [0,1,6,7] ?_));refine ao (ae (aa 2 rfl (cY rfl rfl ⟨by omega,by omega⟩ (aa 1 rfl (ab [0,1,6,7,8] ?_)))));refine aD (ju (fun(k:Nat)(o:List Nat)(rs:Nat)=>k) (fun(k:Nat)(o:List Nat)(rs:Nat)=>put (put (put (put (put (emp) 0 (.val (.slice A l.length c))) 1 (.val (.int .u64 (m:Int)))) 6 (.val (.slice (some ⟨g,0,none⟩) l.length l.length))) 7 (.val (.int .u64 (rs:Int)))) 8 (.val (.int .i64 ((k:Int)-1)))) (fun(k:Nat)(o:List Nat)(rs:Nat) H'=>H'=ins H g (cC o l.length)∧k≤l.length∧o.length=l.length∧Lt o∧rs<m∧val (o.drop k)*m+rs=val (l.drop k)) l.length _ 0 (⟨rfl,by omega,by simp,Lt.replicate _,by omega,by simp[val]⟩) av ?_);rintro k o rs H1 ⟨rfl,hk,cK,cO,mR,hv⟩;refine ao ?_
 refine ae (aa 2 rfl (ab [0,1,6,7,8,16] ?_));refine az rfl (fun hb=> ?_) (fun hb=> ?_)
 ·
  have hb:1≤k:=by simp at hb;omega
  obtain⟨k,rfl⟩:∃j,k=j+1:=⟨k-1,by omega⟩;obtain⟨d,hd⟩:∃d,l[k]? = some d:=⟨_,List.getElem?_eq_getElem (by omega)⟩;have iK:=hl.get hd;rw[bt]at iK
  have hj:(((k+1:Nat):Int)-1).toNat=k:=by omega
  have jV:((rs:Int)*1000000000+(d:Int))/(m:Int)<1000000000:=Int.ediv_lt_of_lt_mul (by omega) (by omega);have bJ:0≤((rs:Int)*1000000000+(d:Int))/(m:Int):=Int.ediv_nonneg (by omega) (by omega);refine aw (ah [0,1,6,7,8] rfl ?_);refine ao (aD (ae (aa 1 rfl (gB rfl rfl ⟨by omega,by omega⟩ (aa 2 rfl (a5 ag rfl rfl rfl rfl rfl (lT _) (by rw[hj];exact cA hd) (by omega) (by omega) fun _=> ?_))))));refine ct ag rfl rfl rfl ⟨by omega,by omega⟩ (aJ rfl rfl ⟨by omega,by omega⟩ (aa 1 rfl (ab [0,1,6,7,8] ?_)));refine ae (aa 4 rfl (iY rfl rfl (by omega) (by omega) ⟨by omega,by omega⟩ (ct ag rfl rfl rfl ⟨by omega,by omega⟩ ?_)));obtain⟨ti,aj,ak⟩:=kp;refine dE (.inl rfl) ag rfl rfl rfl (by omega) (by omega) (bn _ _ _) rfl (by rw[kt];omega) aj ak (fun _=>rfl) rfl rfl rfl fun _=> ?_;refine ab [0,1,6,7,8] ?_;refine aB rfl (aa 2 rfl (jR rfl rfl (by omega) (by omega) (aa 1 rfl (ay (ah [0,1,6,7,8] rfl ?_)))));refine aB rfl (aa 1 rfl (cY rfl rfl ⟨by omega,by omega⟩ (aa 1 rfl (ay ?_))))
  have hq:(rs*1000000000+d)/m<1000000000:=by rw[Nat.div_lt_iff_lt_mul xW];omega
  refine⟨k,o.set k ((rs*1000000000+d)/m),(rs*1000000000+d)%m,by omega,av,by rw[oO (y:=(rs*1000000000+d)/m) (by simp)];rw[hj],by omega,by simp[cK],cO.set (by rw[bt];omega),Nat.mod_lt _ xW,?_⟩;rw[set_drop (by omega),vz hd,fV,fV,←hv];have:=Nat.div_add_mod (rs*1000000000+d) m
  simp only[bt,Nat.add_mul,Nat.mul_add,Nat.mul_assoc]
  rw[Nat.mul_comm m]at this
  omega
 ·
  have hb:k=0:=by simp at hb;omega
  subst hb
  simp only[List.drop_zero]at hv
  refine bA (ah [6,7] rfl ?_);refine ae (aa 1 rfl (aq rfl rfl (uk (s6 _ _ o _ _ cK.symm (Nat.le_refl _)) cO (by omega)) ?_));intro v1 H4 hp;refine aa 3 rfl (ab [4,5] ?_);refine ar ⟨.inr rfl,_,.tmp rfl (.tmp rfl (.nil)),?_⟩;refine⟨(Heap.bh _ hg).trans hp.le,v1,?_,?_⟩
  ·rw[(BR hv mR).2];rfl
  ·rw[(BR hv mR).1];exact hp.nat
end Go.au
namespace Go.au
open Go.Proofs Num
def Vx(H:Heap)(v:Value)(H':Heap):Prop:=H'=H∧∃d:Nat,v = .int .u64 (d:Int)∧d≤999999999
theorem Vy{H:Heap}{u v:Value}{x y:Nat}(hx:cn H u x)(hy:cn H v y)(GG:2≤(af y).length)(p3:(af x).length≤(af y).length+1)(hm:((af y).length:Int)≤8796093022208):
 Fn Tryz.prog 109 #[u,v] H (Vx H):=by
 obtain⟨A,c,rfl,hc,hr⟩:=hx
 obtain⟨A',c',rfl,gA,cF⟩:=hy
 have fJ:=(dO x).lt
 have eh:=(dO y).lt
 obtain⟨k,hk⟩:∃k,(af y).length=k+2:=⟨(af y).length-2,by omega⟩
 have pZ:(((af y).length:Int)-1).toNat=k+1:=by omega
 have tf:(((af y).length:Int)-2).toNat=k:=by omega
 obtain⟨b1,e8⟩:∃z,(af y)[k+1]? = some z:=⟨_,List.getElem?_eq_getElem (by omega)⟩
 obtain⟨b0,gK⟩:∃z,(af y)[k]? = some z:=⟨_,List.getElem?_eq_getElem (by omega)⟩
 have Vz:=eh.get e8
 have VA:=eh.get gK
 have aaB:b1≠0:=(dO y).last b1 (by rw[List.getLast?_eq_getElem?,hk];exact e8)
 rw[bt]at Vz VA;refine aU (args:=[_,_]) Tryz.func109 rfl rfl Tryz.ntmps109 rfl rfl fun w0=> ?_;refine ah [0,1] rfl ?_;refine ae (aa 1 rfl (ab [0,1] ?_));refine ae (aa 3 rfl (ab [0,1,5] ?_));refine ao (ae (aa 4 rfl (ab [0,1,5,15] ?_)));refine az rfl (fun hb=> ?_) (fun hb=> ?_)
 ·
  skip
  refine ae (aa 1 rfl (ab [4] ?_));refine ar ⟨.inr rfl,_,.tmp rfl (.nil),?_⟩;exact⟨rfl,0,rfl,by omega⟩
 ·
  have hb:(af y).length≤(af x).length:=by simpa using hb
  obtain⟨r1,nB⟩:∃z,(af x)[k+1]? = some z:=⟨_,List.getElem?_eq_getElem (by omega)⟩;obtain⟨r0,pN⟩:∃z,(af x)[k]? = some z:=⟨_,List.getElem?_eq_getElem (by omega)⟩;have Db:=fJ.get nB;have VB:=fJ.get pN;rw[bt]at Db VB;have jV:((r1:Int)*1000000000+(r0:Int))/((b1:Int)*1000000000+(b0:Int))<1000000000:=Int.ediv_lt_of_lt_mul (by omega) (by omega);have bJ:0≤((r1:Int)*1000000000+(r0:Int))/((b1:Int)*1000000000+(b0:Int)):=Int.ediv_nonneg (by omega) (by omega);obtain⟨q,hq⟩:∃q:Nat,(q:Int)=((r1:Int)*1000000000+(r0:Int))/((b1:Int)*1000000000+(b0:Int)):=⟨_,Int.toNat_of_nonneg bJ⟩;rw[←hq]at jV;refine aw (ah [0,1,5] rfl ?_);refine bT .bN [0,1,2,3,4,5,6,7,8,9,10,11,12,13,14] follows (by kernel_rfl) ?_;refine aa 2 rfl (cY rfl rfl ⟨by omega,by omega⟩ (a5 ag rfl rfl rfl rfl rfl (cF) (by rw[pZ];exact cA e8) (by omega) (by omega) fun _=> ?_));refine ct ag rfl rfl rfl ⟨by omega,by omega⟩ (gB rfl rfl ⟨by omega,by omega⟩ (aa 2 rfl (cY rfl rfl ⟨by omega,by omega⟩ (a5 ag rfl rfl rfl rfl rfl (cF) (by rw[tf];exact cA gK) (by omega) (by omega) fun _=> ?_))));refine ct ag rfl rfl rfl ⟨by omega,by omega⟩ (aJ rfl rfl ⟨by omega,by omega⟩ (aa 1 rfl (ab [0,5,6] ?_)))
  refine bT .bN [0,1,2,3,4,5,6,7,8,9,10,11,12,13,14] follows (by kernel_rfl) ?_;refine aa 2 rfl (cY rfl rfl ⟨by omega,by omega⟩ (a5 ag rfl rfl rfl rfl rfl (hr) (by rw[pZ];exact cA nB) (by omega) (by omega) fun _=> ?_));refine ct ag rfl rfl rfl ⟨by omega,by omega⟩ (gB rfl rfl ⟨by omega,by omega⟩ (aa 2 rfl (cY rfl rfl ⟨by omega,by omega⟩ (a5 ag rfl rfl rfl rfl rfl (hr) (by rw[tf];exact cA pN) (by omega) (by omega) fun _=> ?_))));refine ct ag rfl rfl rfl ⟨by omega,by omega⟩ (aJ rfl rfl ⟨by omega,by omega⟩ (aa 1 rfl (ab [0,5,6,7] ?_)));refine ao (ae (aa 4 rfl (ab [0,5,6,7,47] ?_)));refine az rfl (fun hb=> ?_) (fun hb=> ?_)
  ·
   skip
   refine ae (aa 2 rfl (iY rfl rfl (by omega) (by omega) ⟨by rw[←hq];omega,by rw[←hq];omega⟩ ?_));rw[←hq];refine aa 1 rfl (ab [4] ?_);refine ar ⟨.inr rfl,_,.tmp rfl (.nil),?_⟩;exact⟨rfl,q,rfl,by omega⟩
  have hb:(af x).length=(af y).length+1:=by simp at hb;omega
  obtain⟨rn,VD⟩:∃z,(af x)[(af y).length]? = some z:=⟨_,List.getElem?_eq_getElem (by omega)⟩;refine aw (ah [0,5,6,7] rfl ?_);refine ae (aa 2 rfl (a5 ag rfl rfl rfl rfl rfl (hr) (cA VD) (by omega) (by omega) fun _=>(EZ Tryz.underlying92 Tryz.underlying135 rfl fun f1=>(E0 (.inr (.inl rfl)) rfl rfl fun f2=>(aa 1 rfl (EZ Tryz.underlying91 Tryz.underlying135 rfl fun f3=>(E0 (.inl rfl) rfl rfl fun f4=>(aa 1 rfl (ab [6,8] ?_)))))))));refine ae (aa 2 rfl (EZ Tryz.underlying91 Tryz.underlying135 rfl fun f5=>(E0 (.inr (.inr rfl)) rfl rfl fun f6=>(Q9 Tryz.underlying135 Tryz.underlying91 rfl fun f7 hf7=>(aa 1 rfl (ab [9] ?_))))));refine ae (aa 1 rfl (QB (v:=((f7:Int)+2)%18446744073709551616) rfl rfl rfl (Rb rfl rfl ?_)))
  generalize VE:(if (999999999:Int)<((f7:Int)+2)%18446744073709551616 then(999999999:Int)else((f7:Int)+2)%18446744073709551616)=mn
  have aaC:0≤mn∧mn≤999999999:=by rw[←VE];split <;> omega
  obtain⟨q2,rfl⟩:∃q2:Nat,mn=(q2:Int):=⟨mn.toNat,by omega⟩;refine aa 1 rfl (ab [4] ?_);refine ar ⟨.inr rfl,_,.tmp rfl (.nil),?_⟩;exact⟨rfl,q2,rfl,by omega⟩
end Go.au
