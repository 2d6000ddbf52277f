/- Part 6 of the proof: Tab4, Tab5, Tab6, Tab7, Eng13, Tab8, Ref1, Ref2, Ref3, Ref4. -/
import Derived.Test.YtgjimcieaecdkaaGreatA05
set_option linter.unusedVariables false
namespace Go.ar
open Go.Proofs Num Lp
theorem XJ{u k:Nat}(h:u≤k)(j:Nat):ao.gY u (k+1) j=ed (ao.gY u k) k 1 j:=by
 unfold ed ao.gY
 by_cases e:j=k
 ·rw[if_pos (by omega),if_pos e]
 ·rw[if_neg e]
  by_cases e2:u≤j∧j<k
  ·rw[if_pos (by omega)];simp only[e2,and_self,if_true]
  ·rw[if_neg (by omega)];simp only[e2,if_false]
theorem Ow{H:Heap}{G:TG}{L:TL}{T:ao}(h:cK H G L T)(hc:fj H G L T)(hs:(aK (T.c L.w):Int)≤1099511627776):
 Fn Tryz.prog 27 #[.pointer (some ⟨G.g,0,none⟩)] H (N6 G.gs H (-(T.c L.w))):=by
 obtain⟨gc,cc,xS,tc,vw⟩:=id hc
 obtain⟨xc,nc,dc,bc,te,so,Ai⟩:=vw.rd (eF (show L.w<L.w+1 by omega))
 have fW:cell H ((⟨G.g,0,none⟩:Addr).add 7)=some (.slice (some ⟨gc,0,none⟩) (L.w+1) cc):=by rw[←tc];exact h.cell rfl
 refine aW (args:=[_]) Tryz.func27 rfl rfl Tryz.ntmps27 rfl rfl fun w0=> ?_;refine aj [0] rfl ?_;refine af (bD dd rfl (ae [0,2] ?_));refine cg .bR [0,1,2,3,4,5,6,7,8,9,10,11] follows (by kernel_rfl) ?_;refine ab 2 rfl (a4 ag rfl rfl rfl (aQ ag rfl rfl rfl (fW) (ab 2 rfl (a4 ag rfl rfl rfl (aQ ag rfl rfl rfl (h.xR) (cS (vs:=[.int .i64 nc,.int .i64 dc,.pointer bc]) ag rfl rfl rfl rfl te rfl (by decide) (by rw[Int.toNat_natCast];exact Ai) (by omega) (by omega) fun _=> ?_))))));refine aT rfl rfl (Fn.iM h.ne (xn so hs)) (fun _ _ h=>by first | exact h.le | exact h.1) ?_;rintro v1 H1 ⟨fU,cn,n1,d1,b1,rfl,bQ⟩;obtain⟨ti,ak,al⟩:=bI;refine aM (.inl ⟨rfl,rfl⟩) rfl rfl rfl ak al rfl rfl rfl (ae [2] ?_);obtain⟨bO,aI,aJ⟩:=bI;refine aw ⟨.inr rfl,_,.agg rfl Tryz.underlying61 aI aJ (.nil),?_⟩;exact⟨fU,cn,n1,d1,b1,rfl,bQ⟩
theorem Ox{H:Heap}{G:TG}{L:TL}{T:ao}(h:cK H G L T)(hw:(L.w:Int)≤1000000):
 Fn Tryz.prog 25 #[.pointer (some ⟨G.g,0,none⟩)] H (xX aZ 3 G.gs H (aN (ao.gY L.u L.w) L.w)):=by
 have kz:=h.uw;refine aW (args:=[_]) Tryz.func25 rfl rfl Tryz.ntmps25 rfl rfl fun w0=> ?_;refine aj [0] rfl ?_;refine af (ab 1 rfl (ae [0] ?_));refine af (ab 2 rfl (a4 ag rfl rfl rfl (aQ ag rfl rfl rfl (h.xR) (au rfl rfl (Az h.ne (by omega)) ?_))));rintro v1 H1 ⟨cn,z,xs,rfl,g0,jG⟩;have eB:=g0.tab h;refine ab 1 rfl (ae [0,3] ?_);refine aq (af (ab 2 rfl (a4 ag rfl rfl rfl (aQ ag rfl rfl rfl (eB.cell 1 _ rfl) (ab 1 rfl (ae [0,3,4] ?_))))));refine aD (jS (fun(k:Nat)(xs:List Value)=>L.w-k) (fun(k:Nat)(xs:List Value)=>put (put (put (emp) 0 (.val (.pointer (some ⟨G.g,0,none⟩)))) 3 (.val (.slice (some ⟨z,0,none⟩) L.w L.w))) 4 (.val (.int .i64 (k:Int)))) (fun(k:Nat)(xs:List Value) H'=>dJ G.gs H H' z xs (L.w*3) 61∧(∀K:Heap,bg (aZ K) 3 xs (aN (ao.gY L.u k) L.w))∧L.u≤k∧k≤L.w) L.u xs (⟨g0,fun K=>by rw[j8 (g:=fun _=>0) (fun j _=>by unfold ao.gY;rw[if_neg (by omega)])];exact jG K,Nat.le_refl _,kz⟩) ay ?_);rintro k xs H2 ⟨dg,iw,ED,hkw⟩;have jh:=dg.tab h;have cj:=(iw H).len;rw[cE]at cj;refine aq (af (ab 3 rfl (a4 ag rfl rfl rfl ?_)))
 refine aQ ag rfl rfl rfl (by have:=jh.cell 0 _ rfl;rwa [jd]at this) ?_;refine ab 1 rfl (ae [0,3,4,19] ?_);refine az rfl (fun hb=> ?_) (fun hb=> ?_)
 ·
  have hb:k<L.w:=by simpa using hb
  refine ax (aj [0,3,4] rfl ?_);refine aq (aD (aF rfl (ab 2 rfl (au rfl rfl (oP) ?_))));rintro v3 H3 ⟨e3,rfl⟩;rw[e3];obtain⟨ti,ak,al⟩:=bI;refine dP (.inl rfl) ag rfl rfl rfl (by omega) (by omega) (dg.aB) rfl (by show 0+L.w*3≤xs.length;omega) ak al (fun _=>rfl) rfl rfl rfl fun _=> ?_;refine aA (aj [0,3,4] rfl ?_);refine aF rfl (ab 1 rfl (aO rfl rfl ⟨by omega,by omega⟩ (ab 1 rfl (aA ?_))));exact⟨k+1,aC xs (k*3) [.int .i64 1,.int .i64 1,.pointer none],by omega,ay,dg.set lr,fun K=>by rw[j8 (g:=ed (ao.gY L.u k) k 1) (fun j _=>XJ ED j)];exact nU (iw K) hb (oO K (n:=1) (by decide) (by decide)),by omega,by omega⟩
 ·
  have hb:L.w≤k:=by simpa using hb
  obtain rfl:k=L.w:=by omega
  refine bC (aj [3] rfl ?_);refine af (ab 2 rfl (ae [2] ?_));refine aw ⟨.inr rfl,_,.tmp rfl (.nil),?_⟩;exact⟨dg.done.1,dg.hle,some ⟨z,0,none⟩,L.w,xs,by rw[cE];rfl,by rw[cE];exact Nat.le_refl _,dg.rd,iw _⟩
theorem XK{H:Heap}{G:TG}{L:TL}{T0:ao}{N:Nat}{J:Nat→ao→Prop}(h:cK H G L T0)(hc:fj H G L T0)(hJ:J 0 T0)(Oy:∀k S,J k S→k<S.m→(S.B k<L.u∨∀j,j<L.u→S.A k j=0)→J (k+1) S)
 (XL:∀k S s,J k S→k<S.m→L.u≤S.B k→s<L.u→S.A k s≠0→J (k+1) (S.bP k s)) (hinv:∀k S,J k S→Sz N S∧S.m=T0.m∧S.n=T0.n) (hN:(N:Int)≤137438953472) (hw:(L.w:Int)≤1000000) (hm:(T0.m:Int)≤1000000):
 Fn Tryz.prog 30 #[.pointer (some ⟨G.g,0,none⟩)] H (fun _ H'=>∃T,J T0.m T∧cK H' G L T∧fj H' G L T∧Heap.le (rem H G.gs) (rem H' G.gs)):=by
 have kz:=h.uw
 obtain⟨Ab,cb,iP,_⟩:=h.self.bv
 have ln:cell H ((⟨G.g,0,none⟩:Addr).add 8)=some (.slice Ab T0.m cb):=by rw[←iP];exact h.cell rfl
 refine aW (args:=[_]) Tryz.func30 rfl rfl Tryz.ntmps30 rfl rfl fun w0=> ?_;refine aj [0] rfl ?_;refine af (ab 2 rfl (a4 ag rfl rfl rfl (aQ ag rfl rfl rfl (ln) (ab 2 rfl (ae [0,8,9,10] ?_)))));refine aD (jS (fun(k:Nat)(T:ao)=>T0.m-k) (fun(k:Nat)(T:ao)=>put (put (put (put (emp) 0 (.val (.pointer (some ⟨G.g,0,none⟩)))) 8 (.val (.slice Ab T0.m cb))) 9 (.val (.int .i64 (T0.m:Int)))) 10 (.val (.int .i64 (k:Int)))) (fun(k:Nat)(T:ao) H'=>cK H' G L T∧fj H' G L T∧J k T∧Heap.le (rem H G.gs) (rem H' G.gs)∧k≤T0.m) 0 T0 (⟨h,hc,hJ,.refl _,Nat.zero_le _⟩) ay ?_);rintro k T H1 ⟨h1,iJ,AA,eM,fU⟩;obtain⟨bV,Om,II⟩:=hinv k T AA;obtain⟨A2,c2,AB,zM⟩:=h1.self.bv;rw[iP]at AB
 obtain⟨rfl,-,rfl⟩:Ab=A2∧T0.m=T.m∧cb=c2:=by simpa using AB
 refine af (ab 1 rfl (ae [0,8,9,10,11] ?_));refine aq (az rfl (fun hb=> ?_) (fun hb=> ?_))
 ·
  have iO:k<T0.m:=by simpa using hb
  have vy:k<T.m:=by omega
  obtain⟨pk,mQ⟩:=h1.get vy;refine ax (aj [0,8,9,10] rfl ?_);refine aq (aD (af (ab 1 rfl (a9 ag rfl rfl rfl rfl rfl (zM) (by rw[Int.toNat_natCast];exact rj vy) (by omega) (by omega) fun _=> ?_))));refine ab 2 rfl (ae [0,2,3,8,9,10] ?_);refine aq (af (ab 3 rfl (a4 ag rfl rfl rfl (aQ ag rfl rfl rfl (h1.cell rfl) (ab 1 rfl (ae [0,2,8,9,10,20] ?_))))));refine az rfl (fun hb=> ?_) (fun hb=> ?_)
  ·
   have hb:T.B k<L.u:=by simp at hb;omega
   refine bC (aj [0,8,9,10] rfl ?_);refine aF rfl (aO rfl rfl ⟨by omega,by omega⟩ (ab 1 rfl (aA ?_)));exact⟨k+1,T,by omega,ay,h1,iJ,Oy k T AA vy (.inl hb),eM,by omega⟩
  ·
   have XM:L.u≤T.B k:=by simp at hb;omega
   refine ax (aj [0,2,8,9,10] rfl ?_);refine af (ab 2 rfl (a4 ag rfl rfl rfl (aQ ag rfl rfl rfl (h1.cell rfl) (ab 1 rfl (ae [0,2,8,9,10,24,25] ?_)))));refine aD (gj (fun(j:Nat)=>L.u-j) (fun(j:Nat)=>put (put (put (put (put (put (put (emp) 0 (.val (.pointer (some ⟨G.g,0,none⟩)))) 2 (.val (.int .i64 (k:Int)))) 8 (.val (.slice Ab T0.m cb))) 9 (.val (.int .i64 (T0.m:Int)))) 10 (.val (.int .i64 (k:Int)))) 24 (.val (.int .i64 (L.u:Int)))) 25 (.val (.int .i64 (j:Int)))) (fun(j:Nat) H'=>Kept G.gs H1 H'∧j≤L.u∧∀i,i<j→T.A k i=0) 0 (⟨.refl _ _,Nat.zero_le _,fun i hi=>by omega⟩) ay ?_);rintro j H3 ⟨dC,hju,xY⟩;have h3:=h1.kept dC;refine af (ab 1 rfl (ae [0,2,8,9,10,24,25,26] ?_));refine aq (az rfl (fun hb=> ?_) (fun hb=> ?_))
   ·
    have Oz:j<L.u:=by simpa using hb
    obtain⟨OA,AD,eW⟩:=h3.rows;obtain⟨xj,nj,dj,bj,XN,XO,XP⟩:=(h3.row k pk mQ).rd (eF (show j<L.w+1 by omega));have hsj:=bV.A k vy j (by rw[h1.n];omega);refine ax (aj [0,2,8,9,10,24,25] rfl ?_);refine aq (aD (af (ab 2 rfl (ae [0,2,4,8,9,10,24,25] ?_))));refine af (ab 2 rfl (a4 ag rfl rfl rfl (aQ ag rfl rfl rfl (h3.cell rfl) (ab 1 rfl (a9 ag rfl rfl rfl rfl rfl (AD.le (bn _ _)) (by rw[Int.toNat_natCast];exact eW k pk mQ) (by omega) (by omega) fun _=> ?_)))));refine ab 1 rfl (cS (vs:=[.int .i64 nj,.int .i64 dj,.pointer bj]) ag rfl rfl rfl rfl XN rfl (by decide) (by rw[Int.toNat_natCast];exact XP) (by omega) (by omega) fun _=> ?_);refine au rfl rfl (Fn.oV h3.ne (iK XO (by omega))) ?_;rintro v4 H4 ⟨ey,eZ,rfl⟩;have h4:=h3.kept ey;refine ab 1 rfl (ae [0,2,4,8,9,10,24,25,39] ?_);refine az rfl (fun hb=> ?_) (fun hb=> ?_)
    ·
     have OB:T.A k j≠0:=fun e=>by rw[e]at hb;simp[fK]at hb
     have OC:=XL k T j AA vy XM Oz OB;obtain⟨XQ,_,_⟩:=hinv _ _ OC;refine af (ab 3 rfl (au rfl rfl (Of (N:=N) h4 ((iJ.kept dC).kept ey) vy (by omega) OB bV XQ (by omega) hw (by omega)) ?_));rintro v5 H5 ⟨h5,AE,fg⟩;refine ae [0,8,9,10] ?_;refine bC (aj [0,8,9,10] rfl ?_);refine aF rfl (aO rfl rfl ⟨by omega,by omega⟩ (ab 1 rfl (aA ?_)));exact⟨k+1,T.bP k j,by omega,ay,h5,AE,OC,(eM.trans (dC.trans ey).le).trans fg,by omega⟩
    have hb:T.A k j=0:=s4 (by simpa using hb);refine ax (aj [0,2,8,9,10,24,25] rfl ?_);refine aF rfl (aO rfl rfl ⟨by omega,by omega⟩ (ab 1 rfl (aA ?_)));exact⟨j+1,by omega,ay,dC.trans ey,by omega,fun i hi=>by by_cases e:i=j;(rw[e];exact hb);exact xY i (by omega)⟩
   have hb:L.u≤j:=by simpa using hb
   obtain rfl:j=L.u:=by omega
   refine bC (aj [0,8,9,10] rfl ?_);refine aF rfl (aO rfl rfl ⟨by omega,by omega⟩ (ab 1 rfl (aA ?_)));exact⟨k+1,T,by omega,ay,h3,iJ.kept dC,Oy k T AA vy (.inr xY),eM.trans dC.le,by omega⟩
 ·
  have hb:T0.m≤k:=by simpa using hb
  obtain rfl:k=T0.m:=by omega
  refine bC ?_;refine⟨.inl rfl,_,.nil,?_⟩;exact⟨T,AA,h1,iJ,eM⟩
end Go.ar
namespace Go.ar
open Go.Proofs Num Lp
def TL.pF(L:TL)(j:Nat):Nat:=L.plus.getD j 0
def TL.mZ(L:TL)(j:Nat):Int:=L.minus.getD j (-1)
def TL.mF(L:TL)(j:Nat):Option Nat:=if 0≤L.mZ j then some (L.mZ j).toNat else none
def TL.uF(L:TL)(i:Nat):Nat:=L.gM.getD i 0
def TL.sF(L:TL)(i:Nat):Rat:=fn L.gB i
structure TL.Ok(L:TL)(n m:Nat):Prop where
 EE:L.plus.length=n
 EF:L.minus.length=n
 IL:L.gM.length=m
 IM:L.gB.length=m
 pw:∀j,j<n→L.pF j<L.w
 mw:∀j,j<n→L.mZ j<L.w
 uw:∀i,i<m→L.uF i<L.w
 s1:∀i,i<m→aK (L.sF i)≤1
section
variable {L:TL} {n m:Nat}
theorem TL.Ok.p(h:L.Ok n m){j:Nat}(hj:j<n):L.plus[j]? = some (L.pF j):=by
 have:j<L.plus.length:=by rw[h.EE];exact hj
 simp[TL.pF,List.getD,List.getElem?_eq_getElem this]
theorem TL.Ok.mi(h:L.Ok n m){j:Nat}(hj:j<n):L.minus[j]? = some (L.mZ j):=by
 have:j<L.minus.length:=by rw[h.EF];exact hj
 simp[TL.mZ,List.getD,List.getElem?_eq_getElem this]
theorem TL.Ok.u(h:L.Ok n m){i:Nat}(hi:i<m):L.gM[i]? = some (L.uF i):=by
 have:i<L.gM.length:=by rw[h.IL];exact hi
 simp[TL.uF,List.getD,List.getElem?_eq_getElem this]
theorem TL.Ok.s(h:L.Ok n m){i:Nat}(hi:i<m):L.gB[i]? = some (L.sF i):=by
 have:i<L.gB.length:=by rw[h.IM];exact hi
 simp[TL.sF,fn,List.getD,List.getElem?_eq_getElem this]
end
theorem XR{α:Type}(l:List α)(k:Nat)(a b:α):(l.set k a).set k b=l.set k b:=by simp
theorem IN{K:Heap}{xs vs:List Value}{l:List (Option Rat)}{k:Nat}{q:Rat}(h:bg (gy aZ K) 3 xs l)(hk:k<l.length)(hv:aZ K vs q):bg (gy aZ K) 3 (aC xs (k*3) vs) (l.set k (some q)):=h.set hk (show gy aZ K vs (some q)from hv) hv.len
theorem OD{K:Heap}{xs:List Value}{f:Nat→Rat}{n:Nat}(h:bg (gy aZ K) 3 xs (fill (aN f n) n)):bg (aZ K) 3 xs (aN f n):=El (by rw[cE];exact h)
theorem OE{H:Heap}{G:TG}{L:TL}{T:ao}{n m N:Nat}{v:Value}{f:Nat→Rat}(h:cK H G L T)(hL:L.Ok n m)(hv:aH aZ 3 (rem H G.gs) v (aN f L.w))(hf:∀j,j<L.w→aK (f j)≤N)(hN:(N:Int)≤274877906944)(hw:(L.w:Int)≤1000000)(hn:(n:Int)≤1000000):
 Fn Tryz.prog 68 #[.pointer (some ⟨G.g,0,none⟩),v] H (xX fy 3 G.gs H (aN (cP.vec L.pF L.mF f) n)):=by
 obtain⟨Av,cv,xv,rfl,jn,pA⟩:=hv.num
 rw[cE]
 have AF:=h.self
 obtain⟨Ap,cp,xp,qc,jm,vv⟩:=AF.plus.one
 obtain⟨Am,cm,xm,qd,lq,AG⟩:=AF.minus.one
 rw[hL.EE]at qc
 rw[hL.EF]at qd
 obtain⟨l,hl⟩:∃l,l=cP.vec L.pF L.mF f:=⟨_,rfl⟩
 have ct:cell H ((⟨G.g,0,none⟩:Addr).add 2)=some (.slice Ap n cp):=by rw[←qc];exact h.cell rfl
 refine aW (args:=[_,_]) Tryz.func68 rfl rfl Tryz.ntmps68 rfl rfl fun w0=> ?_;refine aj [0,1] rfl ?_;refine af (ab 1 rfl (ae [0,1] ?_));refine af (ab 2 rfl (a4 ag rfl rfl rfl (aQ ag rfl rfl rfl (ct) (ab 1 rfl (iF Tryz.underlying56 dd rfl rfl rfl (by omega) (by omega) (by omega) (by omega) ?_)))));intro z rp;rw[show ((n:Int)).toNat=n from by omega];have g0:dJ G.gs H _ z (cA [.int .i64 0,.int .i64 0,.pointer none] (n*3)) (n*3) 61:=dJ.new h.ne rp
 have jG:bg (gy aZ (rem (ins H z ⟨cA [.int .i64 0,.int .i64 0,.pointer none] (n*3),n*3,61,true⟩) (z::G.gs))) 3 (cA [.int .i64 0,.int .i64 0,.pointer none] (n*3)) (fill (aN l n) 0):=by have:=z6 (P:=aZ) (H:=rem (ins H z ⟨cA [.int .i64 0,.int .i64 0,.pointer none] (n*3),n*3,61,true⟩) (z::G.gs)) (zs:=[.int .i64 0,.int .i64 0,.pointer none]) (sz:=3) (by rfl) (aN l n);rwa [cE]at this
 refine ab 1 rfl (ae [0,1,5] ?_);refine aq (af (ab 3 rfl (ae [0,1,5,14,15] ?_)));refine aD (jS (fun(k:Nat)(xs:List Value)=>n-k) (fun(k:Nat)(xs:List Value)=>put (put (put (put (put (emp) 0 (.val (.pointer (some ⟨G.g,0,none⟩)))) 1 (.val (.slice Av L.w cv))) 5 (.val (.slice (some ⟨z,0,none⟩) n n))) 14 (.val (.int .i64 (n:Int)))) 15 (.val (.int .i64 (k:Int)))) (fun(k:Nat)(xs:List Value) H'=>dJ G.gs H H' z xs (n*3) 61∧bg (gy aZ (rem H' (z::G.gs))) 3 xs (fill (aN l n) k)∧k≤n) 0 _ (⟨g0,jG,Nat.zero_le _⟩) ay ?_);rintro k xs H2 ⟨dg,iw,gi⟩;have j7:=xL (l:=aN l n) (k:=k) (by rw[cE];exact gi);rw[cE]at j7;have cj:=iw.len;rw[j7]at cj;have jh:=dg.tab h;have kr:=dg.hle;refine af (ab 1 rfl (ae [0,1,5,14,15,16] ?_));refine aq (az rfl (fun hb=> ?_) (fun hb=> ?_))
 ·
  have ew:k<n:=by simpa using hb
  obtain⟨up,AH,AI⟩:=vv k _ (hL.p ew);obtain⟨um,tg,AJ⟩:=AG k _ (hL.mi ew)
  cases AI
  cases AJ
  have rY:=hL.pw k ew;have OF:=hL.mw k ew;obtain⟨n1,d1,b1,dB,dD⟩:=pA _ _ (eF rY);have jR:=hf _ rY;have XS:=jm.le kr;have acY:=lq.le kr;have xZ:=(jn.le dg.le).le (bn _ _)
  have XT:cell H2 ((⟨G.g,0,none⟩:Addr).add 2)=some (.slice Ap n cp):=by rw[←qc];exact jh.cell 2 _ rfl
  refine ax (aj [0,1,5,14,15] rfl ?_);refine aq (aD (af (ab 2 rfl (ae [0,1,5,6,14,15] ?_))));refine af (ab 5 rfl (a4 ag rfl rfl rfl (aQ ag rfl rfl rfl (XT) (ab 1 rfl (a9 ag rfl rfl rfl rfl rfl (XS) (by rw[Int.toNat_natCast];exact AH) (by omega) (by omega) fun _=> ?_)))));refine cS (vs:=[.int .i64 n1,.int .i64 d1,.pointer b1]) ag rfl rfl rfl rfl xZ rfl (by decide) (by rw[Int.toNat_natCast];exact dD) (by omega) (by omega) fun _=> ?_;obtain⟨ti,ak,al⟩:=bI;refine dP (.inl rfl) ag rfl rfl rfl (by omega) (by omega) (dg.aB) rfl (by show 0+n*3≤xs.length;omega) ak al (fun _=>rfl) rfl rfl rfl fun _=> ?_;refine ae [0,1,5,6,14,15] ?_;have gN:dJ G.gs H _ z (aC xs (k*3) [.int .i64 n1,.int .i64 d1,.pointer b1]) (n*3) 61:=dg.set (lr (k:=k) (sz:=3))
  have ru:bg (gy aZ (rem (ins H2 z {(⟨xs,n*3,61,true⟩:aG)with xs:=aC xs (0+k*3) [.int .i64 n1,.int .i64 d1,.pointer b1]}) (z::G.gs))) 3 (aC xs (k*3) [.int .i64 n1,.int .i64 d1,.pointer b1]) ((fill (aN l n) k).set k (some (f (L.pF k)))):=by
   rw[bZ _ (List.mem_cons_self ..)];exact IN iw (by rw[j7];exact ew) (dB.le dg.le)
  generalize AK:ins H2 z {(⟨xs,n*3,61,true⟩:aG)with xs:=aC xs (0+k*3) [.int .i64 n1,.int .i64 d1,.pointer b1]}=H3 at gN ru
  have XU:ins H2 z {(⟨xs,n*3,61,true⟩:aG)with xs:=aC xs (0+((k:Int)).toNat*3) [.int .i64 n1,.int .i64 d1,.pointer b1]}=H3:=AK;rw[show ∀e:aG,e = {(⟨xs,n*3,61,true⟩:aG)with xs:=aC xs (0+((k:Int)).toNat*3) [.int .i64 n1,.int .i64 d1,.pointer b1]}→ins H2 z e=H3 from fun e he=>by rw[he];exact XU]
  rotate_left
  ·rfl
  have Hw:=gN.tab h;have OG:=lq.le gN.hle;have XV:=(jn.le gN.le).le (bn _ _)
  have fu:cell H3 ((⟨G.g,0,none⟩:Addr).add 3)=some (.slice Am n cm):=by rw[←qd];exact Hw.cell 3 _ rfl
  refine af (ab 2 rfl (a4 ag rfl rfl rfl (aQ ag rfl rfl rfl (fu) (ab 1 rfl (a9 ag rfl rfl rfl rfl rfl (OG) (by rw[Int.toNat_natCast];exact tg) (by omega) (by omega) fun _=> ?_)))));refine ab 1 rfl (ae [0,1,5,6,14,15,38] ?_);refine az rfl (fun hb=> ?_) (fun hb=> ?_)
  ·
   have hb:0≤L.mZ k:=by simpa using hb
   obtain⟨n2,d2,b2,gJ,dQ⟩:=pA _ _ (eF (show (L.mZ k).toNat<L.w by omega));have kR:=hf (L.mZ k).toNat (by omega)
   have eW:∀(j:Nat)(u:Value),[.int .i64 n1,.int .i64 d1,.pointer b1][j]? = some u→(aC xs (k*3) [.int .i64 n1,.int .i64 d1,.pointer b1])[k*3+j]? = some u:=fun j u hu=>by
    have hj:=(List.getElem?_eq_some_iff.1 hu).1
    simp only[List.length_cons,List.length_nil]at hj
    rw[HV _ _ _ _ (by simp only[List.length_cons,List.length_nil];omega),if_pos (by simp only[List.length_cons,List.length_nil];omega),Nat.add_sub_cancel_left];exact hu
   refine fc .fR [0,1,2,3,4,5,6,7,8,9,10,11,12,13,14,15,16,17,18] follows (by kernel_rfl) ?_;refine ab 4 rfl (cS (vs:=[.int .i64 n1,.int .i64 d1,.pointer b1]) ag rfl rfl rfl rfl (re gN.aB) rfl (by decide) (by rw[Int.toNat_natCast];exact eW) (by omega) (by omega) fun _=> ?_);refine ab 3 rfl (a4 ag rfl rfl rfl (aQ ag rfl rfl rfl (fu) (ab 1 rfl (a9 ag rfl rfl rfl rfl rfl (OG) (by rw[Int.toNat_natCast];exact tg) (by omega) (by omega) fun _=> ?_))));refine cS (vs:=[.int .i64 n2,.int .i64 d2,.pointer b2]) ag rfl rfl rfl rfl XV rfl (by decide) dQ (by omega) (by omega) fun _=>(aT rfl rfl (Fn.iM (gN.ne h.ne) (vi (N:=N) (dB.le gN.le) (gJ.le gN.le) jR kR (by omega))) (fun _ _ h=>by first | exact h.le | exact h.1) ?_);rintro v4 H4 ⟨ey,eZ,n4,d4,b4,rfl,cJ⟩;have nV:=gN.kept ey
   have acZ:(aC xs (k*3) [.int .i64 n1,.int .i64 d1,.pointer b1]).length=n*3:=by rw[ze];exact cj
   obtain⟨ti,ak,al⟩:=bI;refine dP (.inr rfl) ag rfl rfl rfl (by omega) (by omega) (nV.aB) rfl (by show 0+n*3≤(aC xs (k*3) [.int .i64 n1,.int .i64 d1,.pointer b1]).length;omega) ak al (fun _=>rfl) rfl rfl rfl fun _=> ?_;refine aA (aj [0,1,5,14,15] rfl ?_);refine aF rfl (aO rfl rfl ⟨by omega,by omega⟩ (ab 1 rfl (aA ?_)));exact⟨k+1,aC (aC xs (k*3) [.int .i64 n1,.int .i64 d1,.pointer b1]) (k*3) [.int .i64 n4,.int .i64 d4,.pointer b4],by omega,ay,nV.set lr,by rw[bZ _ (List.mem_cons_self ..),←xM (a:=f (L.pF k)-f (L.mZ k).toNat) (by rw[eF ew,hl];unfold cP.vec TL.mF;rw[if_pos hb];rfl),←XR (fill (aN l n) k) k (some (f (L.pF k)))];exact IN (ru.mono fun vs a=>gy.up fi _ _ vs a ey.le) (by rw[List.length_set,j7];exact ew) cJ,by omega⟩
  ·
   have hb:¬0≤L.mZ k:=by simpa using hb
   refine ax (aj [0,1,5,14,15] rfl ?_);refine aF rfl (aO rfl rfl ⟨by omega,by omega⟩ (ab 1 rfl (aA ?_)));exact⟨k+1,aC xs (k*3) [.int .i64 n1,.int .i64 d1,.pointer b1],by omega,ay,gN,by rw[←xM (a:=f (L.pF k)) (by rw[eF ew,hl];unfold cP.vec TL.mF;rw[if_neg hb];simp only[eS];rw[show f (L.pF k)-0=f (L.pF k) by grind])];exact ru,by omega⟩
 ·
  have hb:n≤k:=by simpa using hb
  obtain rfl:k=n:=by omega
  have jo:=dg.done;refine bC (aj [5] rfl ?_);refine af (vr 1 ?_)
  refine au rfl rfl (Fn.EC (jo.1.ne h.ne) (NY (l:=aN l k) ⟨some ⟨z,0,none⟩,k,xs,by rw[cE],by rw[cE];exact Nat.le_refl _,dg.rd,(OD iw).mono fun vs a=>fi _ _ vs a jo.2⟩ (fun q hq=>by
  obtain⟨j,hj,rfl⟩:=List.mem_map.1 hq;have hj:=List.mem_range.1 hj;rw[hl];have h1:=hf _ (hL.pw j hj);have h2:=hL.mw j hj
  unfold cP.vec TL.mF
  split
  ·
   have h3:=hf (L.mZ j).toNat (by omega);have h4:=pV (f (L.pF j)) (f (L.mZ j).toNat)
   simp only[eS];omega
  ·
   have h4:=pV (f (L.pF j)) 0;rw[NW]at h4
   simp only[eS];omega) (by rw[cE];omega))) ?_
  rintro v9 H9 ⟨kB,jI,oW⟩;refine ab 1 rfl (ae [4] ?_);refine aw ⟨.inr rfl,_,.tmp rfl (.nil),?_⟩;exact⟨jo.1.trans kB,dg.hle.trans jI,by rw[←hl];exact oW⟩
end Go.ar
namespace Go.ar
open Go.Proofs Num Lp
def th(T:ao)(k j:Nat):Rat:=aP k (fun i=>if T.B i=j then T.A i T.n else 0)
def vz(T:ao)(s k j:Nat):Rat:=(if j=s then 1 else 0)-aP k (fun i=>if T.B i=j then T.A i s else 0)
theorem XW{T:ao}(hW:T.WF){k:Nat}(hk:k<T.m)(j:Nat):th T (k+1) j=ed (th T k) (T.B k) (T.A k T.n) j:=by
 unfold th ed
 rw[eu]
 by_cases e:j=T.B k
 ·rw[if_pos e,if_pos e.symm,ks]
  ·grind
  ·intro i hi
   rw[if_neg (fun e'=>by have:=hW.inj (by omega) hk (e'.trans e);omega)]
 ·rw[if_neg e,if_neg (fun e'=>e e'.symm)];grind
theorem XX{T:ao}{j:Nat}(hj:j<T.n):th T T.m j=T.pt j:=by
 unfold th ao.pt
 rw[if_neg (by omega)]
theorem XY{T:ao}(hW:T.WF){s k:Nat}(hs:∀i,i<T.m→T.B i≠s)(hk:k<T.m)(j:Nat):vz T s (k+1) j=ed (vz T s k) (T.B k) (-(T.A k s)) j:=by
 unfold vz ed
 rw[eu]
 by_cases e:j=T.B k
 ·rw[if_pos e,if_pos e.symm,ks,if_neg (fun e'=>hs k hk (by rw[←e,e']))]
  ·grind
  ·intro i hi
   rw[if_neg (fun e'=>by have:=hW.inj (by omega) hk (e'.trans e);omega)]
 ·rw[if_neg e]
  have e2:(if T.B k=j then T.A k s else 0)=0:=if_neg (fun e'=>e e'.symm)
  rw[e2];grind
theorem OH{H:Heap}{G:TG}{L:TL}{T:ao}{n m N:Nat}(h:cK H G L T)(hW:T.WF)(hL:L.Ok n m)(hz:∀j,j<L.w→aK (T.pt j)≤N)(hN:(N:Int)≤274877906944)(hw:(L.w:Int)≤1000000)(hn:(n:Int)≤1000000)(hm:(T.m:Int)≤1000000):
 Fn Tryz.prog 34 #[.pointer (some ⟨G.g,0,none⟩)] H (xX fy 3 G.gs H (aN (cP.vec L.pF L.mF T.pt) n)):=by
 obtain⟨Ab,cb,iP,_⟩:=h.self.bv;refine aW (args:=[_]) Tryz.func34 rfl rfl Tryz.ntmps34 rfl rfl fun w0=> ?_;refine aj [0] rfl ?_;refine af (ab 1 rfl (ae [0] ?_));refine af (ab 2 rfl (a4 ag rfl rfl rfl (aQ ag rfl rfl rfl (h.xR) (au rfl rfl (Az h.ne (by omega)) ?_))));rintro v1 H1 ⟨cn,z,xs,rfl,g0,jG⟩;have eB:=g0.tab h;refine ab 1 rfl (ae [0,3] ?_);refine aq (af (ab 2 rfl (a4 ag rfl rfl rfl (aQ ag rfl rfl rfl (show cell H1 _=some (.slice Ab T.m cb)from by rw[←iP];exact eB.cell 8 _ rfl) ?_))));refine ab 2 rfl (ae [0,3,14,15,16] ?_);refine aD (jS (fun(k:Nat)(xs:List Value)=>T.m-k) (fun(k:Nat)(xs:List Value)=>put (put (put (put (put (emp) 0 (.val (.pointer (some ⟨G.g,0,none⟩)))) 3 (.val (.slice (some ⟨z,0,none⟩) L.w L.w))) 14 (.val (.slice Ab T.m cb))) 15 (.val (.int .i64 (T.m:Int)))) 16 (.val (.int .i64 (k:Int)))) (fun(k:Nat)(xs:List Value) H'=>dJ G.gs H H' z xs (L.w*3) 61∧bg (aZ (rem H' (z::G.gs))) 3 xs (aN (th T k) L.w)∧k≤T.m) 0 xs (⟨g0,by rw[j8 (f:=th T 0) (g:=fun _=>0) (fun j _=>rfl)];exact jG _,Nat.zero_le _⟩) ay ?_);rintro k xs H2 ⟨dg,iw,gi⟩;have jh:=dg.tab h;have cj:=iw.len;rw[cE]at cj
 refine af (ab 1 rfl (ae [0,3,14,15,16,17] ?_));refine aq (az rfl (fun hb=> ?_) (fun hb=> ?_))
 ·
  have iO:k<T.m:=by simpa using hb
  obtain⟨OA,AD,eW⟩:=jh.rows;obtain⟨pk,mQ,sX⟩:=eW k iO;have AL:=hW.lt k iO;rw[h.n]at AL;obtain⟨A3,c3,AM,IP⟩:=jh.bv;rw[iP]at AM
  obtain⟨rfl,-,rfl⟩:Ab=A3∧T.m=T.m∧cb=c3:=by simpa using AM
  have iQ:=jh.cell 6 _ rfl;obtain⟨xw,n1,d1,b1,An,dB,Aq⟩:=sX.rd (eF (show L.w<L.w+1 by omega));refine ax (aj [0,3,14,15,16] rfl ?_);refine aq (aD (af (ab 1 rfl (a9 ag rfl rfl rfl rfl rfl (IP) (by rw[Int.toNat_natCast];exact rj iO) (by omega) (by omega) fun _=> ?_))));refine ab 2 rfl (ae [0,3,4,5,14,15,16] ?_);refine fc .fR [0,1,2,3,4,5,6,7,8,9,10,11,12,13,14,15,16] follows (by kernel_rfl) ?_;refine ab 4 rfl (a4 ag rfl rfl rfl (aQ ag rfl rfl rfl (iQ) (ab 1 rfl (a9 ag rfl rfl rfl rfl rfl (AD) (by rw[Int.toNat_natCast];exact mQ) (by omega) (by omega) fun _=> ?_))));refine ab 2 rfl (a4 ag rfl rfl rfl (aQ ag rfl rfl rfl (by have:=jh.cell 0 _ rfl;rwa [jd]at this) ?_));refine cS (vs:=[.int .i64 n1,.int .i64 d1,.pointer b1]) ag rfl rfl rfl rfl An rfl (by decide) (by rw[Int.toNat_natCast];exact Aq) (by omega) (by omega) fun _=> ?_;obtain⟨ti,ak,al⟩:=bI;refine dP (.inr rfl) ag rfl rfl rfl (by omega) (by omega) (dg.aB) rfl (by show 0+L.w*3≤xs.length;omega) ak al (fun _=>rfl) rfl rfl rfl fun _=> ?_;refine aA (aj [0,3,14,15,16] rfl ?_);refine aF rfl (aO rfl rfl ⟨by omega,by omega⟩ ?_)
  refine ab 1 rfl (aA ?_);exact⟨k+1,aC xs (T.B k*3) [.int .i64 n1,.int .i64 d1,.pointer b1],by omega,ay,dg.set (by rw[Int.toNat_natCast];exact lr),by rw[bZ _ (List.mem_cons_self ..),j8 (g:=ed (th T k) (T.B k) (T.A k T.n)) (fun j _=>XW hW iO j),h.n];exact nU iw AL dB,by omega⟩
 ·
  have hb:T.m≤k:=by simpa using hb
  obtain rfl:k=T.m:=by omega
  have jo:=dg.done;rw[j8 (g:=T.pt) (fun j hj=>XX (by rw[h.n];exact hj))]at iw;refine bC (aj [0,3] rfl ?_);refine af (ab 2 rfl (au rfl rfl (OE (h.kept jo.1) hL (v:= .slice (some ⟨z,0,none⟩) L.w L.w) (f:=T.pt) ⟨some ⟨z,0,none⟩,L.w,xs,by rw[cE],by rw[cE];exact Nat.le_refl _,dg.rd,iw.mono fun vs a=>fi _ _ vs a jo.2⟩ hz hN hw hn) ?_));rintro v9 H9 ⟨kB,jI,oW⟩;refine ab 1 rfl (ae [2] ?_);refine aw ⟨.inr rfl,_,.tmp rfl (.nil),?_⟩;exact⟨jo.1.trans kB,dg.hle.trans jI,oW⟩
theorem XZ{H:Heap}{G:TG}{L:TL}{T:ao}{n m N s:Nat}(h:cK H G L T)(hW:T.WF)(hL:L.Ok n m)(hs:s<L.w)(x5:∀i,i<T.m→T.B i≠s)(bV:∀i,i<T.m→aK (T.A i s)≤N)(hz:∀j,j<L.w→aK (T.dir s j)≤N)(hN:(N:Int)≤274877906944)(hw:(L.w:Int)≤1000000)(hn:(n:Int)≤1000000)(hm:(T.m:Int)≤1000000):
 Fn Tryz.prog 35 #[.pointer (some ⟨G.g,0,none⟩),.int .i64 (s:Int)] H (xX fy 3 G.gs H (aN (cP.vec L.pF L.mF (T.dir s)) n)):=by
 obtain⟨Ab,cb,iP,_⟩:=h.self.bv;refine aW (args:=[_,_]) Tryz.func35 rfl rfl Tryz.ntmps35 rfl rfl fun w0=> ?_;refine aj [0,1] rfl ?_;refine af (ab 1 rfl (ae [0,1] ?_));refine af (ab 2 rfl (a4 ag rfl rfl rfl (aQ ag rfl rfl rfl (h.xR) (au rfl rfl (Az h.ne (by omega)) ?_))));rintro v1 H1 ⟨cn,z,xs,rfl,g0,jG⟩;have X0:=(jG H).len;rw[cE]at X0;refine ab 1 rfl (ae [0,1,5] ?_);refine af (ab 2 rfl (au rfl rfl (oP) ?_));rintro v3 H3 ⟨e3,rfl⟩;rw[e3];obtain⟨ti,ak,al⟩:=bI;refine dP (.inl rfl) ag rfl rfl rfl (by omega) (by omega) (g0.aB) rfl (by show 0+L.w*3≤xs.length;omega) ak al (fun _=>rfl) rfl rfl rfl fun _=> ?_;refine ae [0,1,5] ?_;have x6:dJ G.gs H (ins H1 z {(⟨xs,L.w*3,61,true⟩:aG)with xs:=aC xs (0+((s:Int)).toNat*3) [.int .i64 1,.int .i64 1,.pointer none]}) z (aC xs (s*3) [.int .i64 1,.int .i64 1,.pointer none]) (L.w*3) 61:=g0.set (by rw[Int.toNat_natCast];exact lr);have eB:=x6.tab h;refine aq (af (ab 2 rfl (a4 ag rfl rfl rfl (aQ ag rfl rfl rfl (show cell _ _=some (.slice Ab T.m cb)from by rw[←iP];exact eB.cell 8 _ rfl) ?_))));refine ab 2 rfl (ae [0,1,5,20,21,22] ?_)
 refine aD (jS (fun(k:Nat)(xs:List Value)=>T.m-k) (fun(k:Nat)(xs:List Value)=>put (put (put (put (put (put (emp) 0 (.val (.pointer (some ⟨G.g,0,none⟩)))) 1 (.val (.int .i64 (s:Int)))) 5 (.val (.slice (some ⟨z,0,none⟩) L.w L.w))) 20 (.val (.slice Ab T.m cb))) 21 (.val (.int .i64 (T.m:Int)))) 22 (.val (.int .i64 (k:Int)))) (fun(k:Nat)(xs:List Value) H'=>dJ G.gs H H' z xs (L.w*3) 61∧bg (aZ (rem H' (z::G.gs))) 3 xs (aN (vz T s k) L.w)∧k≤T.m) 0 (aC xs (s*3) [.int .i64 1,.int .i64 1,.pointer none]) (⟨x6,by rw[j8 (g:=ed (fun _=>0) s 1) (fun j _=>by unfold vz ed;rw[sT];split <;> grind)];exact nU (jG _) hs (oO _ (n:=1) (by decide) (by decide)),Nat.zero_le _⟩) ay ?_);rintro k xs H2 ⟨dg,iw,gi⟩;have jh:=dg.tab h;have cj:=iw.len;rw[cE]at cj;refine af (ab 1 rfl (ae [0,1,5,20,21,22,23] ?_));refine aq (az rfl (fun hb=> ?_) (fun hb=> ?_))
 ·
  have iO:k<T.m:=by simpa using hb
  obtain⟨OA,AD,eW⟩:=jh.rows;obtain⟨pk,mQ,sX⟩:=eW k iO;have AL:=hW.lt k iO;rw[h.n]at AL;obtain⟨A3,c3,AM,IP⟩:=jh.bv;rw[iP]at AM
  obtain⟨rfl,-,rfl⟩:Ab=A3∧T.m=T.m∧cb=c3:=by simpa using AM
  have iQ:=jh.cell 6 _ rfl;obtain⟨xw,n1,d1,b1,An,dB,Aq⟩:=sX.rd (eF (show s<L.w+1 by omega));have Eo:=bV k iO;refine ax (aj [0,1,5,20,21,22] rfl ?_);refine aq (aD (af (ab 1 rfl (a9 ag rfl rfl rfl rfl rfl (IP) (by rw[Int.toNat_natCast];exact rj iO) (by omega) (by omega) fun _=> ?_))));refine ab 2 rfl (ae [0,1,5,6,7,20,21,22] ?_);refine aF rfl (ab 4 rfl (a4 ag rfl rfl rfl (aQ ag rfl rfl rfl (iQ) (ab 1 rfl (a9 ag rfl rfl rfl rfl rfl (AD) (by rw[Int.toNat_natCast];exact mQ) (by omega) (by omega) fun _=> ?_)))));refine ab 1 rfl (cS (vs:=[.int .i64 n1,.int .i64 d1,.pointer b1]) ag rfl rfl rfl rfl An rfl (by decide) (by rw[Int.toNat_natCast];exact Aq) (by omega) (by omega) fun _=> ?_);refine au rfl rfl (Fn.iM (dg.ne h.ne) (xn dB (by omega))) ?_;rintro v4 H4 ⟨ey,eZ,n4,d4,b4,rfl,cJ⟩;have nV:=dg.kept ey;obtain⟨ti,ak,al⟩:=bI;refine dP (.inl rfl) ag rfl rfl rfl (by omega) (by omega) (nV.aB) rfl (by show 0+L.w*3≤xs.length;omega) ak al (fun _=>rfl) rfl rfl rfl fun _=> ?_;refine aA (aj [0,1,5,20,21,22] rfl ?_);refine aF rfl (aO rfl rfl ⟨by omega,by omega⟩ (vr 1 ?_))
  refine aA ?_;exact⟨k+1,aC xs (T.B k*3) [.int .i64 n4,.int .i64 d4,.pointer b4],by omega,ay,nV.set (by rw[Int.toNat_natCast];exact lr),by rw[bZ _ (List.mem_cons_self ..),j8 (g:=ed (vz T s k) (T.B k) (-(T.A k s))) (fun j _=>XY hW x5 iO j)];exact nU (iw.mono fun vs a=>fi _ _ vs a ey.le) AL cJ,by omega⟩
 ·
  have hb:T.m≤k:=by simpa using hb
  obtain rfl:k=T.m:=by omega
  have jo:=dg.done;rw[j8 (f:=vz T s T.m) (g:=T.dir s) (fun j hj=>rfl)]at iw;refine bC (aj [0,5] rfl ?_);refine af (ab 2 rfl (au rfl rfl (OE (h.kept jo.1) hL (v:= .slice (some ⟨z,0,none⟩) L.w L.w) (f:=T.dir s) ⟨some ⟨z,0,none⟩,L.w,xs,by rw[cE],by rw[cE];exact Nat.le_refl _,dg.rd,iw.mono fun vs a=>fi _ _ vs a jo.2⟩ hz hN hw hn) ?_));rintro v9 H9 ⟨kB,jI,oW⟩;refine ab 1 rfl (ae [4] ?_);refine aw ⟨.inr rfl,_,.tmp rfl (.nil),?_⟩;exact⟨jo.1.trans kB,dg.hle.trans jI,oW⟩
theorem OI{H:Heap}{G:TG}{L:TL}{T:ao}{n m N:Nat}{v:Value}{f:Nat→Rat}(h:cK H G L T)(hc:fj H G L T)(hL:L.Ok n m)(hv:aH aZ 3 (rem H G.gs) v (aN f L.w))(hf:∀j,j<L.w→aK (f j)≤N)(OJ:∀j,j<L.w→aK (T.c j)≤N)(hN:(N:Int)≤274877906944)(hw:(L.w:Int)≤1000000)(hm:(m:Int)≤1000000):
 Fn Tryz.prog 29 #[.pointer (some ⟨G.g,0,none⟩),v] H (xX fy 3 G.gs H (aN (fun i=>L.sF i*(f (L.uF i)-T.c (L.uF i))) m)):=by
 obtain⟨Av,cv,xv,rfl,jn,pA⟩:=hv.num
 rw[cE]
 have AF:=h.self
 obtain⟨Au,cu,xu,AN,X1,X2⟩:=AF.gM.one
 obtain⟨As,cs,xs5,qR,sG,C5⟩:=AF.gB.num
 rw[hL.IL]at AN
 rw[hL.IM]at qR
 obtain⟨l,hl⟩:∃l,l=(fun i=>L.sF i*(f (L.uF i)-T.c (L.uF i))):=⟨_,rfl⟩
 have xV:∀i,i<m→aK (l i)≤2*N+2:=fun i hi=>by
  have h1:=hf _ (hL.uw i hi)
  have h2:=OJ _ (hL.uw i hi)
  have h3:=hL.s1 i hi
  have h4:=pV (f (L.uF i)) (T.c (L.uF i))
  have h5:=pU (L.sF i) (f (L.uF i)-T.c (L.uF i))
  rw[hl];show aK (L.sF i*(f (L.uF i)-T.c (L.uF i)))≤_
  omega
 have eZ:cell H ((⟨G.g,0,none⟩:Addr).add 4)=some (.slice Au m cu):=by rw[←AN];exact h.cell rfl
 obtain⟨gc,cc,xS,tc,vw⟩:=id hc
 have nW:gc∈G.gs:=TG.s9 (by rw[xS];exact List.mem_singleton.2 rfl);refine aW (args:=[_,_]) Tryz.func29 rfl rfl Tryz.ntmps29 rfl rfl fun w0=> ?_;refine aj [0,1] rfl ?_;refine af (ab 1 rfl (ae [0,1] ?_));refine af (ab 2 rfl (a4 ag rfl rfl rfl (aQ ag rfl rfl rfl (eZ) (ab 1 rfl (iF Tryz.underlying56 dd rfl rfl rfl (by omega) (by omega) (by omega) (by omega) ?_)))));intro z rp;rw[show ((m:Int)).toNat=m from by omega];have g0:dJ G.gs H _ z (cA [.int .i64 0,.int .i64 0,.pointer none] (m*3)) (m*3) 61:=dJ.new h.ne rp
 have jG:bg (gy aZ (rem (ins H z ⟨cA [.int .i64 0,.int .i64 0,.pointer none] (m*3),m*3,61,true⟩) (z::G.gs))) 3 (cA [.int .i64 0,.int .i64 0,.pointer none] (m*3)) (fill (aN l m) 0):=by have:=z6 (P:=aZ) (H:=rem (ins H z ⟨cA [.int .i64 0,.int .i64 0,.pointer none] (m*3),m*3,61,true⟩) (z::G.gs)) (zs:=[.int .i64 0,.int .i64 0,.pointer none]) (sz:=3) (by rfl) (aN l m);rwa [cE]at this
 have eB:=g0.tab h;refine ab 1 rfl (ae [0,1,5] ?_);refine aq (af (ab 2 rfl (a4 ag rfl rfl rfl (aQ ag rfl rfl rfl (show cell _ _=some (.slice Au m cu)from by rw[←AN];exact eB.cell 4 _ rfl) ?_))));refine ab 2 rfl (ae [0,1,5,17,18,19] ?_);refine aD (jS (fun(k:Nat)(xs:List Value)=>m-k) (fun(k:Nat)(xs:List Value)=>put (put (put (put (put (put (emp) 0 (.val (.pointer (some ⟨G.g,0,none⟩)))) 1 (.val (.slice Av L.w cv))) 5 (.val (.slice (some ⟨z,0,none⟩) m m))) 17 (.val (.slice Au m cu))) 18 (.val (.int .i64 (m:Int)))) 19 (.val (.int .i64 (k:Int)))) (fun(k:Nat)(xs:List Value) H'=>dJ G.gs H H' z xs (m*3) 61∧bg (gy aZ (rem H' (z::G.gs))) 3 xs (fill (aN l m) k)∧k≤m) 0 _ (⟨g0,jG,Nat.zero_le _⟩) ay ?_);rintro k xs H2 ⟨dg,iw,gi⟩;have j7:=xL (l:=aN l m) (k:=k) (by rw[cE];exact gi);rw[cE]at j7;have cj:=iw.len;rw[j7]at cj;have jh:=dg.tab h;have kr:=dg.hle;refine af (ab 1 rfl (ae [0,1,5,17,18,19,20] ?_));refine aq (az rfl (fun hb=> ?_) (fun hb=> ?_))
 ·
  have ew:k<m:=by simpa using hb
  obtain⟨uu,X3,X4⟩:=X2 k _ (hL.u ew)
  cases X4
  have kz:=hL.uw k ew;obtain⟨n1,d1,b1,dB,dD⟩:=pA _ _ (eF kz);obtain⟨n2,d2,b2,gJ,dQ⟩:=C5 k _ (hL.s ew);obtain⟨xc,n3,d3,b3,te,fM,eW⟩:=(vw.le dg.le (dg.same gc nW)).rd (eF (show L.uF k<L.w+1 by omega));have jR:=hf _ kz;have sj:=OJ _ kz;have kR:=hL.s1 k ew;have xZ:=(jn.le dg.le).le (bn _ _);have X5:=(sG.le dg.le).le (bn _ _);have X6:=X1.le kr
  have gL:cell H2 ((⟨G.g,0,none⟩:Addr).add 5)=some (.slice As m cs):=by rw[←qR];exact jh.cell 5 _ rfl
  have fW:cell H2 ((⟨G.g,0,none⟩:Addr).add 7)=some (.slice (some ⟨gc,0,none⟩) (L.w+1) cc):=by rw[←tc];exact jh.cell 7 _ rfl
  refine ax (aj [0,1,5,17,18,19] rfl ?_);refine aq (aD (af (ab 1 rfl (a9 ag rfl rfl rfl rfl rfl (X6) (by rw[Int.toNat_natCast];exact X3) (by omega) (by omega) fun _=> ?_))));refine ab 2 rfl (ae [0,1,5,6,7,17,18,19] ?_);refine fc .fR [0,1,2,3,4,5,6,7,8,9,10,11,12,13,14,15,16,17,18,19,20,21,22,23] follows (by kernel_rfl) ?_;refine ab 4 rfl (a4 ag rfl rfl rfl (aQ ag rfl rfl rfl (gL) (ab 1 rfl (cS (vs:=[.int .i64 n2,.int .i64 d2,.pointer b2]) ag rfl rfl rfl rfl X5 rfl (by decide) (by rw[Int.toNat_natCast];exact dQ) (by omega) (by omega) fun _=> ?_))));refine ab 2 rfl (cS (vs:=[.int .i64 n1,.int .i64 d1,.pointer b1]) ag rfl rfl rfl rfl xZ rfl (by decide) (by rw[Int.toNat_natCast];exact dD) (by omega) (by omega) fun _=> ?_);refine ab 2 rfl (a4 ag rfl rfl rfl (aQ ag rfl rfl rfl (fW) (ab 1 rfl (cS (vs:=[.int .i64 n3,.int .i64 d3,.pointer b3]) ag rfl rfl rfl rfl te rfl (by decide) (by rw[Int.toNat_natCast];exact eW) (by omega) (by omega) fun _=> ?_))));refine aT rfl rfl (Fn.iM (dg.ne h.ne) (vi (N:=N) (dB.le dg.le) fM jR sj (by omega))) (fun _ _ h=>by first | exact h.le | exact h.1) ?_
  rintro v4 H4 ⟨ey,ac0,n4,d4,b4,rfl,cJ⟩;have nV:=dg.kept ey;have EG:=pV (f (L.uF k)) (T.c (L.uF k));refine aT rfl rfl (Fn.iM (nV.ne h.ne) (vh (N:=2*N+2) (gJ.le nV.le) cJ (by omega) (by omega) (by omega))) (fun _ _ h=>by first | exact h.le | exact h.1) ?_;rintro v5 H5 ⟨ll,ac1,n5,d5,b5,rfl,p8⟩;have nX:=nV.kept ll;obtain⟨ti,ak,al⟩:=bI;refine dP (.inr rfl) ag rfl rfl rfl (by omega) (by omega) (nX.aB) rfl (by show 0+m*3≤xs.length;omega) ak al (fun _=>rfl) rfl rfl rfl fun _=> ?_;refine aA (aj [0,1,5,17,18,19] rfl ?_);refine aF rfl (aO rfl rfl ⟨by omega,by omega⟩ (ab 1 rfl (aA ?_)));exact⟨k+1,aC xs (k*3) [.int .i64 n5,.int .i64 d5,.pointer b5],by omega,ay,nX.set lr,by rw[bZ _ (List.mem_cons_self ..),←xM (a:=L.sF k*(f (L.uF k)-T.c (L.uF k))) (by rw[eF ew,hl])];exact IN (iw.mono fun vs a=>gy.up fi _ _ vs a (ey.le.trans ll.le)) (by rw[j7];exact ew) p8,by omega⟩
 ·
  have hb:m≤k:=by simpa using hb
  obtain rfl:k=m:=by omega
  have jo:=dg.done;refine bC (aj [5] rfl ?_);refine af (vr 1 ?_)
  refine au rfl rfl (Fn.EC (jo.1.ne h.ne) (NY (l:=aN l k) ⟨some ⟨z,0,none⟩,k,xs,by rw[cE],by rw[cE];exact Nat.le_refl _,dg.rd,(OD iw).mono fun vs a=>fi _ _ vs a jo.2⟩ (fun q hq=>by
  obtain⟨j,hj,rfl⟩:=List.mem_map.1 hq;have:=xV j (List.mem_range.1 hj)
  omega) (by rw[cE];omega))) ?_
  rintro v9 H9 ⟨kB,jI,oW⟩;refine ab 1 rfl (ae [4] ?_);refine aw ⟨.inr rfl,_,.tmp rfl (.nil),?_⟩;exact⟨jo.1.trans kB,dg.hle.trans jI,by rw[←hl];exact oW⟩
end Go.ar
namespace Go.ar
open Go.Proofs Num Lp
def gO(T:ao)(f:Nat→Rat)(k j:Nat):Rat:=(if j=T.n then 0 else f j)-aP k (fun i=>f (T.B i)*T.A i j)
theorem X7(T:ao)(f:Nat→Rat)(k j:Nat):gO T f (k+1) j=gO T f k j-f (T.B k)*T.A k j:=by
 unfold gO;rw[eu];grind
theorem AO(f:Nat→Rat)(n:Nat):aN f (n+1)=aN f n ++ [f n]:=by
 unfold aN;rw[List.range_succ,List.map_append];rfl
theorem X8(f:Nat→Rat)(n:Nat):aN f n ++ [0]=aN (fun j=>if j=n then 0 else f j) (n+1):=by
 rw[AO,j8 (f:=fun j=>if j=n then 0 else f j) (g:=f) (fun j hj=>by show (if j=n then 0 else f j)=f j;rw[if_neg (by omega)]),if_pos rfl]
theorem X9{α:Type}{P:List Value→α→Prop}{sz:Nat}{xs:List Value}{l:List α}(h:bg P sz xs l)(hp:0<sz∧∀vs a,P vs a→∀u,u∈vs→u.oneCell'=true):∀u,u∈xs→u.oneCell'=true:=fun u hu=>by
 obtain⟨i,hi⟩:=List.getElem?_of_mem hu
 have a7:=(List.getElem?_eq_some_iff.1 hi).1
 rw[h.len]at a7
 have he:i/sz<l.length:=Nat.div_lt_of_lt_mul (by rw[Nat.mul_comm];exact a7)
 have hq:=h.at_ (i/sz) _ (List.getElem?_eq_getElem he)
 refine hp.2 _ _ hq u ?_
 have:(ea xs (i/sz) sz)[i%sz]? = some u:=by
  unfold ea
  rw[List.getElem?_take,if_pos (Nat.mod_lt _ hp.1),List.getElem?_drop,Nat.div_add_mod'];exact hi
 exact List.mem_of_getElem? this
theorem Ya{K:Heap}:0<3∧∀vs a,aZ K vs a→∀u,u∈vs→u.oneCell'=true:=⟨by decide,fun vs a h u hu=>by
 obtain⟨n,d,b,rfl⟩:=h.cells
 simp only[List.mem_cons,List.not_mem_nil,or_false]at hu
 rcases hu with rfl | rfl | rfl <;> rfl⟩
def TG.dh(G:TG)(v:Value)(gc:Nat):TG:={G with cv:=v,cb:=[gc]}
theorem cK.Yb{H:Heap}{G:TG}{L:TL}{T:ao}(h:cK H G L T){H3:Heap}{v:Value}{gc:Nat}{e:aG}(nW:H gc=none)(hle:Heap.le (rem H G.gs) (rem (ins H3 G.g e) (G.dh v gc).gs))(hs:∀q,q∈G.gs→H3 q=H q)(h3:H3 gc≠none)(he:e=⟨(G.dh v gc).cells L.w L.u T.m,9,68,true⟩):
  cK (ins H3 G.g e) (G.dh v gc) L T:=by
 have a6:∀q,q∈G.gs→q≠gc:=fun q hq e=>h.ne q hq (by rw[e];exact nW)
 have s6:G.g≠gc:=a6 _ G.nR
 have zY:∀q,q∈G.gs→q≠G.g→ins H3 G.g e q=H q:=fun q hq hn=>by rw[bA _ _ hn];exact hs q hq
 refine⟨h.n,h.uw,by show ins H3 G.g e G.g=_;rw[bx,he],?_,h.ku,?_,fun i p hp=> ?_,?_,h.plus.le jH hle,h.minus.le qa hle,h.gM.le jH hle,h.gB.le fi hle,fun q hq=> ?_⟩
 ·have gT:=h.nd
  unfold TG.gs at gT⊢
  show (G.g::([gc]++(G.bb++G.rg.map (·.1)))).Nodup
  rw[List.nodup_cons,List.nodup_append]at gT
  have iE:∀q,q∈G.bb++G.rg.map (·.1)→q∈G.gs:=fun q hq=>List.mem_cons_of_mem _ (List.mem_append_right _ hq)
  rw[List.nodup_cons,List.nodup_append]
  refine⟨fun hm=> ?_,(by simp),gT.2.2.1,fun a ha b hb=> ?_⟩
  ·rcases List.mem_append.1 hm with hm | hm
   ·exact s6 (List.mem_singleton.1 hm)
   ·exact gT.1 (List.mem_append_right _ hm)
  ·rw[List.mem_singleton]at ha
   rw[ha];exact fun e=>a6 b (iE b hb) e.symm
 ·obtain⟨xs,h1,h2⟩:=h.rows
  exact⟨xs,h1.le hle,h2⟩
 ·have zl:G.rg[i]? = some p:=hp
  exact(h.row i p zl).le hle (zY _ (TG.l5 zl) (fun e=>TG.vt h.nd (.inr (.inr ⟨i,p,zl,rfl⟩)) e.symm))
 ·rcases h.basis with h1 | ⟨gb,cb,sz,h1,h2,h4⟩
  ·exact .inl h1
  ·have hm:gb∈G.bb:=by rw[h1];exact List.mem_singleton.2 rfl
   exact .inr ⟨gb,cb,sz,h1,h2,by rw[zY _ (TG.rk hm) (fun e=>TG.vt h.nd (.inr (.inl hm)) e.symm)];exact h4⟩
 ·have:q=gc:=List.mem_singleton.1 hq
  rw[this,bA _ _ (Ne.symm s6)];exact h3
theorem TG.Yc{G:TG}{v:Value}{gc q:Nat}(h:q∈(G.dh v gc).gs):q=gc∨q∈G.gs:=by
 unfold TG.gs at h
 rcases List.mem_cons.1 h with h | h
 ·exact .inr (by rw[h];exact G.nR)
 ·rcases List.mem_append.1 h with h | h
  ·exact .inl (List.mem_singleton.1 h)
  ·exact .inr (List.mem_cons_of_mem _ (List.mem_append_right _ h))
theorem Yd{H H3:Heap}{G:TG}{v:Value}{gc:Nat}{e:aG}(nW:H gc=none)(hle:Heap.le (rem H G.gs) (rem H3 G.gs)):Heap.le (rem H G.gs) (rem (ins H3 G.g e) (G.dh v gc).gs):=fun q en hq=>by
 have hm:¬q∈G.gs:=fun hm=>by rw[rem_in hm]at hq;cases hq
 have IQ:q≠gc:=fun e=>by rw[bo hm,e,nW]at hq;cases hq
 obtain⟨e',h1,h2⟩:=hle q en hq
 refine⟨e',?_,h2⟩
 rw[bo (fun h=>by rcases TG.Yc h with h | h;exact IQ h;exact hm h),bA _ _ (fun e=>hm (by rw[e];exact G.nR))]
 rwa [bo hm]at h1
theorem OK{H:Heap}{G:TG}{L:TL}{T:ao}{N:Nat}{v:Value}{f:Nat→Rat}(h:cK H G L T)(hv:aH aZ 3 (rem H G.gs) v (aN f L.w))(hB:∀i,i<T.m→T.B i<L.w)(hN:(N:Int)≤549755813888)(hw:(L.w:Int)≤1000000)(hm:(T.m:Int)≤1000000)
 (hf:∀j,j<L.w→aK (f j)≤N) (hA:∀i,i<T.m→∀j,j≤L.w→aK (T.A i j)≤N) (hp:∀k,k≤T.m→∀j,j≤L.w→aK (gO T f k j)≤N):
 Fn Tryz.prog 24 #[.pointer (some ⟨G.g,0,none⟩),v] H (fun _ H'=>∃cv gc,H gc=none∧cK H' (G.dh cv gc) L {T with c:=gO T f T.m}∧fj H' (G.dh cv gc) L {T with c:=gO T f T.m}∧Heap.le (rem H G.gs) (rem H' (G.dh cv gc).gs)):=by
 obtain⟨Av,Ye,xv,rfl,Yf,jn,x8⟩:=hv
 rw[cE]at Yf
 rw[cE]
 have OL:=x8.len
 rw[cE]at OL
 have II:=h.n;refine aW (args:=[_,_]) Tryz.func24 rfl rfl Tryz.ntmps24 rfl rfl fun w0=> ?_;refine aj [0,1] rfl ?_;refine af (ab 2 rfl (dY Tryz.underlying56 dd rfl rfl (mu _ 61 3) (jn.le (bn _ _)) (OL) (X9 x8 Ya) (by omega) (by omega) ?_));intro v1 H1 tj;rw[List.nil_append,Nat.zero_add]at tj;obtain⟨dZ,im⟩:=tj.rem (gs:=G.gs) h.ne (fun q _ e=>by cases e);have ac2:=dZ.own;refine au rfl rfl (oP) ?_;rintro v2 H2 ⟨e2,rfl⟩;rw[e2];refine cU Tryz.underlying56 dd rfl rfl rfl rfl rfl rfl rfl ?_;intro gz AP;have IS:¬gz∈G.gs:=fun hm=>h.ne gz hm (by rw[←im gz hm];exact AP)
 have sN:∀q,q∈G.gs→ins H1 gz (whole (cz [N3 0 1 none]) 61) q=H q:=fun q hq=>by rw[bA _ _ (fun e=>IS (by rw[←e];exact hq))];exact im q hq
 refine dY Tryz.underlying56 dd rfl rfl (tj.own.ins _ AP) (eH _ _ _ _ _ _) (rfl) (by decide) (by omega) (by omega) ?_;intro v3 H3 IT
 obtain⟨jD,AQ⟩:=IT.rem (gs:=G.gs) (fun q hq=>by rw[sN q hq];exact h.ne q hq) (fun q hq e=>by
  rcases tj.at_ with h9 | ⟨g9,h9,fV⟩
  ·rw[h9]at e;cases e
  ·rw[h9]at e;cases e;exact h.ne _ hq fV)
 obtain⟨gc,cc,rfl,OM,EH⟩:∃gc cc,v3 = .slice (some ⟨gc,0,none⟩) (L.w+1) cc∧H3 gc=some ⟨xv++cz [N3 0 1 none],cc*3,61,true⟩∧H gc=none:=by
  rcases IT.own.2 with h9 | ⟨g9,c9,h9,fV,_⟩
  ·omega
  ·
   refine⟨g9,c9,h9,fV,?_⟩
   rcases IT.at_ with fq | ⟨g11,fq,uo⟩
   ·
    rw[h9]at fq
    rcases tj.at_ with kC | ⟨g13,kC,ya⟩
    ·rw[kC]at fq;cases fq
    ·rw[kC]at fq;cases fq;exact ya
   rw[h9]at fq
   cases fq
   have tk:=(uJ uo).2
   cases hh:H g9 with
   | none=>rfl
   | some en=>(obtain⟨e',ON,_⟩:=tj.le g9 en hh;rw[tk]at ON;cases ON)
 have OO:∀q,q∈G.gs→H3 q=H q:=fun q hq=>(AQ q hq).trans (sN q hq);have fL:Heap.le (rem H G.gs) (rem H3 G.gs):=(dZ.le.trans (by rw[qZ _ IS];exact Heap.a0 _ (by rw[bo IS];exact AP))).trans jD.le
 have Yg:H3 G.g=some ⟨G.cells L.w L.u T.m,9,68,true⟩:=by rw[OO _ G.nR];exact h.st
 refine ab 1 rfl (a4 ag rfl rfl rfl ?_);obtain⟨ti,ak,al⟩:=zq;refine mJ (g:=G.g) (o:=7) (.inl rfl) rfl Yg rfl (by show 7+1≤9;omega) ak al rfl rfl rfl rfl ?_;have eY:=Yd (v:= .slice (some ⟨gc,0,none⟩) (L.w+1) cc) (e:={(⟨G.cells L.w L.u T.m,9,68,true⟩:aG)with xs:=aC (G.cells L.w L.u T.m) 7 [.slice (some ⟨gc,0,none⟩) (L.w+1) cc]}) EH fL;have h4:=h.Yb (v:= .slice (some ⟨gc,0,none⟩) (L.w+1) cc) EH eY OO (by rw[OM];simp) rfl;have s6:gc≠G.g:=fun e=>h.ne _ G.nR (by rw[←e];exact EH)
 have OP:ins H3 G.g {(⟨G.cells L.w L.u T.m,9,68,true⟩:aG)with xs:=aC (G.cells L.w L.u T.m) 7 [.slice (some ⟨gc,0,none⟩) (L.w+1) cc]} gc=some ⟨xv++cz [N3 0 1 none],cc*3,61,true⟩:=by rw[bA _ _ s6];exact OM
 generalize ins H3 G.g {(⟨G.cells L.w L.u T.m,9,68,true⟩:aG)with xs:=aC (G.cells L.w L.u T.m) 7 [.slice (some ⟨gc,0,none⟩) (L.w+1) cc]}=H4 at eY h4 OP
 refine ae [0,1] ?_
 have OQ:bg (aZ (rem H4 (G.dh (.slice (some ⟨gc,0,none⟩) (L.w+1) cc) gc).gs)) 3 (xv++cz [N3 0 1 none]) (aN (gO T f 0) (L.w+1)):=by
  rw[j8 (f:=gO T f 0) (g:=fun j=>if j=L.w then 0 else f j) (fun j _=>by unfold gO;rw[sT,II];grind),←X8];exact(x8.mono fun vs a=>fi _ _ vs a eY).append (iq (oO _ (n:=0) (by decide) (by decide)) rfl)
 obtain⟨G',qe⟩:∃G',G'=G.dh (.slice (some ⟨gc,0,none⟩) (L.w+1) cc) gc:=⟨_,rfl⟩;rw[←qe]at eY h4 OQ
 have vA:G'.g=G.g:=by rw[qe];rfl
 have uN:fj H4 G' L {T with c:=gO T f 0}:=⟨gc,cc,by rw[qe];rfl,by rw[qe];rfl,_,_,OP,OQ⟩;have Yh:cK H4 G' L {T with c:=gO T f 0}:=h4.congr rfl rfl (fun _ _ _ _=>rfl) (fun _ _=>rfl);obtain⟨Ab,cb,iP,_⟩:=h4.self.bv
 have ln:cell H4 ((⟨G.g,0,none⟩:Addr).add 8)=some (.slice Ab T.m cb):=by rw[←iP,←vA];exact h4.cell rfl
 refine af (ab 2 rfl (a4 ag rfl rfl rfl (aQ ag rfl rfl rfl (ln) (ab 2 rfl (ae [0,1,17,18,19] ?_)))));refine aD (gj (fun(k:Nat)=>T.m-k) (fun(k:Nat)=>put (put (put (put (put (emp) 0 (.val (.pointer (some ⟨G.g,0,none⟩)))) 1 (.val (.slice Av L.w Ye))) 17 (.val (.slice Ab T.m cb))) 18 (.val (.int .i64 (T.m:Int)))) 19 (.val (.int .i64 (k:Int)))) (fun(k:Nat) H'=>cK H' G' L {T with c:=gO T f k}∧fj H' G' L {T with c:=gO T f k}∧Heap.le (rem H G.gs) (rem H' G'.gs)∧k≤T.m) 0 (⟨Yh,uN,eY,Nat.zero_le _⟩) ay ?_);rintro k H5 ⟨h5,AE,fg,ll⟩;obtain⟨A2,c2,AB,zM⟩:=h5.self.bv;rw[iP]at AB
 obtain⟨rfl,-,rfl⟩:Ab=A2∧T.m=T.m∧cb=c2:=by simpa using AB
 refine af (ab 1 rfl (ae [0,1,17,18,19,20] ?_));refine aq (az rfl (fun hb=> ?_) (fun hb=> ?_))
 ·
  have iO:k<T.m:=by simpa using hb
  have OR:=hB k iO;obtain⟨pk,mQ⟩:=h5.get (i:=k) iO;obtain⟨Yi,_,gW,gn⟩:=x8.get (eF OR);obtain⟨n1,d1,b1,rfl⟩:=gW.cells;obtain⟨gc',cc',ac3,ac4,ac5⟩:=id AE
  have fW:cell H5 ((⟨G.g,0,none⟩:Addr).add 7)=some G'.cv:=by rw[←vA];exact h5.cell rfl
  refine ax (aj [0,1,17,18,19] rfl ?_);refine aq (aD (af (ab 1 rfl (a9 ag rfl rfl rfl rfl rfl (zM) (by rw[Int.toNat_natCast];exact rj (B:=T.B) iO) (by omega) (by omega) fun _=> ?_))));refine ab 2 rfl (ae [0,1,4,5,17,18,19] ?_);refine fc .py [0,1,2,3,4,5,6,7,8,9,10] follows (by kernel_rfl) ?_;refine ab 3 rfl (a4 ag rfl rfl rfl (aQ ag rfl rfl rfl (fW) (ab 3 rfl (cS (vs:=[.int .i64 n1,.int .i64 d1,.pointer b1]) ag rfl rfl rfl rfl ((jn.le fg).le (bn _ _)) rfl (by decide) (by rw[Int.toNat_natCast];exact gn) (by omega) (by omega) fun _=> ?_))));refine Nc rfl rfl (by rw[←vA];exact Oe (N:=N) h5 AE mQ (gW.le fg) hN hw (hf _ OR) (fun j hj=>hp k (by omega) j hj) (fun j hj=>hA k iO j hj)) ?_;rintro v6 H6 ⟨h6,IG,nT⟩;refine aA (aj [0,1,17,18,19] rfl ?_);refine aF rfl (aO rfl rfl ⟨by omega,by omega⟩ (ab 1 rfl (aA ?_)));exact⟨k+1,by omega,ay,h6.congr rfl rfl (fun _ _ _ _=>rfl) (fun _ _=>rfl),IG.congr (fun j _=>X7 T f k j),fg.trans nT,by omega⟩
 ·
  have hb:T.m≤k:=by simpa using hb
  obtain rfl:k=T.m:=by omega
  refine bC ?_;refine⟨.inl rfl,_,.nil,?_⟩;exact⟨_,gc,EH,by rw[←qe];exact h5,by rw[←qe];exact AE,by rw[←qe];exact fg⟩
end Go.ar
namespace Go.ar
open Go
section
variable {P:Program} {n:Nat} {tb:Tb} {all:Array Oper} {s:St} {H:Heap} {md:Mode} {K:St→Heap→Prop} {r:List Oper} {dst:Option Nat} {ty:TypeId} {pos:String} {after:Array Edge} {gd:Option (Nat×Bool)} {kc:Addr→Option Value}
theorem EI{op:Op}(v:Value)(hm:ni op=false)(hc:(Mode.dR kc).og H)(hg:bM all s gd=some true)(nb:ju s dst=true)
  (h:∀a w,eG n s a→(∀ad u,kc ad=some u→w.cell? ad=some u)→(execOp a.eval ⟨dst,op,ty,pos,after,gd⟩).run P w = .ok (.value v) w) (k:aE P n all (.dR kc) r (aR s dst (.val v)) H K):aE P n all (.dR kc) (⟨dst,op,ty,pos,after,gd⟩::r) s H K:=
 .jw v rfl hm nb hc (fun a w ha hd=> .inl ⟨fZ ha (iD (o:=⟨dst,op,ty,pos,after,gd⟩) hg),h a w ha hd⟩) k
theorem AR{x:Operand}{v:Value}(hc:(Mode.dR kc).og H)(hx:ev s x=some v)(hk:aE P n all (.dR kc) r (aR s dst (.val v)) H K)(hg:bM all s gd=some true:=by rfl)(nb:ju s dst=true:=by rfl):aE P n all (.dR kc) (⟨dst,.move x,ty,pos,after,gd⟩::r) s H K:=
 EI v rfl hc hg nb (fun a w ha _=>by simp[execOp,bm ha hx]) hk
theorem qg{x:Operand}{ad:Addr}(hc:(Mode.dR kc).og H)(hx:ev s x=some (.pointer (some ad)))(hk:aE P n all (.dR kc) r (aR s dst (.val (.pointer (some ad)))) H K)(hg:bM all s gd=some true:=by rfl)(nb:ju s dst=true:=by rfl):aE P n all (.dR kc) (⟨dst,.nilCheck x,ty,pos,after,gd⟩::r) s H K:=
 EI _ rfl hc hg nb (fun a w ha _=>by simp[execOp,bm ha hx]) hk
theorem qh{t:TypeId}{x:Operand}{f:Nat}{ad:Addr}{m o z:Nat}{ps:List (Nat×Nat)}(hc:(Mode.dR kc).og H)(cY:ja P tb)(ht:tb[t]? = some (.st m ps))(hf:ps[f]? = some (o,z))(hx:ev s x=some (.pointer (some ad)))
  (hk:aE P n all (.dR kc) r (aR s dst (.val (.pointer (some (ad.add o))))) H K) (hg:bM all s gd=some true:=by rfl) (nb:ju s dst=true:=by rfl):aE P n all (.dR kc) (⟨dst,.fieldAddr t x f,ty,pos,after,gd⟩::r) s H K:=
 EI _ rfl hc hg nb (fun a w ha _=>by
  obtain⟨fs,ii,hu,h2,h3,_,h4⟩:=cY t _ ht
  obtain⟨fd,jj,h5,h6,h7,h9,fV⟩:=h4 f _ hf
  have h8:jj.size≠0:=by rw[h9];exact fV
  simp only at h6
  simp[execOp,bm ha hx,Instr.fieldAt,run_underlying hu,h5,Instr.sureAddr,CY h7 h8,h6]) hk
theorem lx{t:TypeId}{x:Operand}{ad:Addr}{ti:Ti}{v:Value}(hc:(Mode.dR kc).og H)(cY:ja P tb)(ht:tb[t]? = some ti)(h1:ub ti=true)(hx:ev s x=some (.pointer (some ad)))(hv:kc ad=some v)
  (hk:aE P n all (.dR kc) r (aR s dst (.val v)) H K) (hg:bM all s gd=some true:=by rfl) (nb:ju s dst=true:=by rfl):aE P n all (.dR kc) (⟨dst,.load t x,ty,pos,after,gd⟩::r) s H K:=
 EI _ rfl hc hg nb (fun a w ha hd=>by simp[execOp,bm ha hx,Instr.loadAt,Instr.sureAddr,GJ (cY t _ ht) h1 (hd ad v hv)]) hk
theorem AS{f:Operand}{jz:FuncId}{cap args:List Value}{xs:List Operand}{ts:Array TypeId}{aX:Value→Heap→Prop}(hf:ev s f=some (.func (.func jz) #[] cap.toArray))(hx:nx s xs=some args)
  (h:Fn P jz (args++cap).toArray H aX) (hm:∀v H',aX v H'→(Mode.dR kc).og H') (hk:∀v H',aX v H'→aE P n all (.dR kc) r (aR s dst (.val v)) H' K) (hg:bM all s gd=some true:=by rfl) (nb:ju s dst=true:=by rfl):aE P n all (.dR kc) (⟨dst,.call ⟨.value f,xs.toArray,ts⟩,ty,pos,after,gd⟩::r) s H K:=
 .jP aX rfl (.inl zh) nb (zf (cap:=cap) hf hx hg h) (.inr hm) fun v H' hp _=>hk v H' hp
theorem AT{t e bytes:Nat}{x:Operand}{z v:Value}(ht:P.underlying t=some (.slice e))(he:eR P e 1 z bytes)(hx:ev s x=some v)(hv:v.cells = #[v])
  (hk:∀g,H g=none→aE P n all (.dR kc) r (aR s dst (.val (.slice (some ⟨g,0,none⟩) 1 1))) (ins H g (whole [v] e)) K) (hg:bM all s gd=some true:=by rfl) (nb:ju s dst=true:=by rfl):
  aE P n all (.dR kc) (⟨dst,.buildSlice t 1 #[(0,x)],ty,pos,after,gd⟩::r) s H K:=
 .kM (fun g=> .slice (some ⟨g,0,none⟩) 1 1) [v] e rfl rfl nb (fun a w ha=>by
  refine⟨fZ ha (iD (o:=⟨dst,.buildSlice t 1 #[(0,x)],ty,pos,after,gd⟩) hg),?_⟩
  obtain⟨i,hi,hz,bV,_,oB,_⟩:=he
  have ko:v.cells.size=1:=by rw[hv];rfl
  have uj:Instr.fill (fun k=>some (k*i.size,i.size)) (madeCells z.cells (1*i.size)) [(0,v)]=some #[v]:=by
   have h1:=Mb (sz:=1) [v] 0 [] (madeCells z.cells 1).toList (fun u hu=>by rw[List.mem_singleton]at hu;rw[hu];exact ko) rfl (by simp[size_madeCells])
   simp only[List.nil_append,Array.toArray_toList,List.length_singleton]at h1
   have e1:cz [v] = [v]:=by simp[cz,hv]
   rw[e1]at h1
   rw[bV]
   simpa [List.range']using h1
  have:=Mc (P:=P) (w:=w) (t:=t) (e:=e) (len:=1) (i:=i) (z:=z) (parts:= #[(0,v)]) (cells:= #[v]) ht hi hz (by rw[bV];decide) (by rw[bV];decide) uj
  simp only[execOp,List.map_toArray,List.map_cons,List.map_nil,bm ha hx,Sem.run_bind,this,Result.andThen_ok,Sem.run_pure]) fun g hg _=>hk g hg
theorem AU{t e sz bytes:Nat}{x y:Operand}{z v:Value}{m k c:Nat}{A:Option Addr}{xs news:List Value}(ht:P.underlying t=some (.slice e))(he:eR P e sz z bytes)(hx:ev s x=some v)(hy:ev s y=some (.slice A k c))(ho:bE H v e sz m xs)
  (hr:Rd H A news) (hl:news.length=k*sz) (h1:∀u∈news,u.oneCell'=true) (hb:(m+k)*bytes≤140737488355328) (ny:m+k≤9223372036854775807) (hc:(Mode.dR kc).og H)
  (hk:∀v' H',App H v e sz (m+k) (xs++news) v' H'→aE P n all (.dR kc) r (aR s dst (.val v')) H' K) (hg:bM all s gd=some true:=by rfl) (nb:ju s dst=true:=by rfl):aE P n all (.dR kc) (⟨dst,.call ⟨.builtin .append,#[x,y],#[t,t]⟩,ty,pos,after,gd⟩::r) s H K:=
 .jP (fun v' H'=>App H v e sz (m+k) (xs++news) v' H') rfl (.inl (by simp[kd,CF])) nb (fun a w ha hd=>by
  refine⟨fZ ha (iD (o:=⟨dst,.call ⟨.builtin .append,#[x,y],#[t,t]⟩,ty,pos,after,gd⟩) hg),?_⟩
  obtain⟨v',w',H',h2,h3,h4,h5⟩:=L9 (P:=P) (c:=c) hd ht he ho hr hl h1 hb ny ty
  have hex:(execOp a.eval ⟨dst,.call ⟨.builtin .append,#[x,y],#[t,t]⟩,ty,pos,after,gd⟩).run P w = .ok (.value v') w':=by
   simp[execOp,resolve,invoke,builtin,bm ha hx,bm ha hy,h2]
  unfold iX
  rw[hex]
  exact⟨H',h3,h4,h5⟩) (.inr fun v' H' ha ad u hu=>cy ha.le (hc ad u hu)) fun v' H' ha _=>hk v' H' ha
theorem Yj{t:TypeId}{x y:Operand}{g o sz:Nat}{ent:aG}{v:Value}{vs:List Value}{ii:TypeInfo}(hx:ev s x=some (.pointer (some ⟨g,o,none⟩)))(hg:H g=some ent)(bW:ent.own=true)(iE:o+sz≤ent.xs.length)
  (uk:P.info? t=some ii) (bV:ii.size=sz) (hy:ev s y=some v) (hv:v.cells=vs.toArray) (fG:vs.length=sz) (h1:vs.all ui=true) (ie:bM all s gd=some true):
  EV P n all ⟨none,.store t x y,ty,pos,after,gd⟩ s H (fun _ H'=>H'=ins H g {ent with xs:=aC ent.xs o vs}):=fun a w ha hd=>by
 refine⟨fZ ha (iD (o:=⟨none,.store t x y,ty,pos,after,gd⟩) ie),?_⟩
 obtain⟨ob,h2,cur,fz,rfl,h3,h4,h5⟩:=hd g ent hg
 have kS:=h5 bW
 subst kS
 have zj:cur=cur.toList.toArray:=by simp
 have hlen:ent.xs.length≤cur.toList.length:=by
  rcases Nat.eq_zero_or_pos ent.xs.length with h | h
  ·omega
  ·have hx:=h4 (ent.xs.length-1) _ (List.getElem?_eq_getElem (by omega))
   have:=(Array.getElem?_eq_some_iff.1 hx).1
   simp;omega
 rw[zj]at h2
 obtain⟨w',h6,h7,h8,h9,fV,fq,uo⟩:=C0 (P:=P) vs cur.toList w o 0 h2 (fun u hu=>List.all_eq_true.1 h1 u hu) (by omega)
 have hex:(execOp a.eval ⟨none,.store t x y,ty,pos,after,gd⟩).run P w = .ok .skip w':=by
  simp[execOp,bm ha hx,bm ha hy,Instr.storeAt,Instr.sureAddr,storeVar,sizeOf,typeInfo,uk,bV,hv,fG,h6]
 unfold iX
 rw[hex]
 refine⟨_,rfl,wH (o:= .cells (aC cur.toList (o+0) vs).toArray ent.elem (0,0)) hd h7 h8 h9 (by omega) (fun q _ hq=>fq q hq) uo ⟨_,(0,0),rfl,?_,?_,fun _=>rfl⟩ (.inl ⟨_,hg,bW,bW,rfl,rfl⟩)⟩
 ·simp[ze,h3]
 ·intro q u hq
  have:=Nd vs ent.xs cur.toList o (fun i w hw=>by have:=h4 i w hw;simpa using this) (by omega) q u hq
  simpa using this
theorem AV{t:TypeId}{x y:Operand}{g o sz:Nat}{ent:aG}{v:Value}{vs:List Value}{ii:TypeInfo}(hx:ev s x=some (.pointer (some ⟨g,o,none⟩)))(hg:H g=some ent)(bW:ent.own=true)(iE:o+sz≤ent.xs.length)
  (uk:P.info? t=some ii) (bV:ii.size=sz) (hy:ev s y=some v) (hv:v.cells=vs.toArray) (fG:vs.length=sz) (h1:vs.all ui=true)
  (hk:aE P n all (.dR kc) r s (ins H g {ent with xs:=aC ent.xs o vs}) K) (ie:bM all s gd=some true:=by rfl):aE P n all (.dR kc) (⟨none,.store t x y,ty,pos,after,gd⟩::r) s H K:=
 .jP _ rfl (.inr rfl) rfl (Yj hx hg bW iE uk bV hy hv fG h1 ie) (.inl rfl) fun _ H' hH _=>by rw[hH];exact hk
theorem Yk{f:FuncId}{xs:List Operand}{cap:List Value}(hx:nx s xs=some cap)(hk:aE P n all md r (aR s dst (.val (.func (.func f) #[] cap.toArray))) H K)(hg:bM all s gd=some true:=by rfl)(nb:md.nb s dst=true:=by rfl):
  aE P n all md (⟨dst,.makeFunc (.func f) #[] xs.toArray,ty,pos,after,gd⟩::r) s H K:=
 fp _ rfl hg nb (fun a w ha _=>by simp[execOp,GM ha xs cap hx,Instr.makeFunc]) hk
end
end Go.ar
namespace Go.ar
open Go.Proofs Num Lp
def g7(L:TL)(a:Nat→Rat)(sg:Rat):Nat→Nat→Rat
 | 0=>fun _=>0
 | k+1=>if 0≤L.mZ k then ed (ed (g7 L a sg k) (L.pF k) (a k*sg)) (L.mZ k).toNat (-(a k*sg))else ed (g7 L a sg k) (L.pF k) (a k*sg)
def oX(f:Nat→Rat)(rel slack:Int)(sg:Rat):Nat→Rat:=if rel=1 then ed f slack.toNat sg else if rel=3 then ed f slack.toNat (-sg)else f
def EJ(L:TL)(n:Nat)(a:Nat→Rat)(b:Rat)(rel slack:Int)(unit:Nat)(sg:Rat):Nat→Rat:=
 ed (ed (oX (g7 L a sg n) rel slack sg) unit 1) L.w (b*sg)
def ez(N:Nat)(H:Heap)(vs:List Value)(r:List Rat×Int×Rat):Prop:=
 ∃c f u w,vs = [c,.int .i64 r.2.1,.bool f,u,w]∧aH (bJ N) 3 H c r.1∧bL H (.agg #[.bool f,u,w]) r.2.2 N
theorem fO(N:Nat):Up (ez N):=fun H H' vs r hl ⟨c,f,u,w,h1,h2,h3⟩=>⟨c,f,u,w,h1,h2.le (cD N) hl,h3.le hl⟩
theorem ez.cells{N:Nat}{H:Heap}{vs:List Value}{r:List Rat×Int×Rat}(h:ez N H vs r):∃A c k f A1 m1 c1 A2 m2 c2,vs = [.slice A k c,.int .i64 r.2.1,.bool f,.slice A1 m1 c1,.slice A2 m2 c2]∧k=r.1.length:=by
 obtain⟨c,f,u,w,h1,⟨A,cc,xs,rfl,_⟩,h3⟩:=h
 obtain⟨f',u',w',l1,l2,e,⟨A1,c1,rfl,_,_⟩,⟨A2,c2,rfl,_,_⟩,_⟩:=h3
 have:=xN (vs:=[.bool f,u,w]) e
 simp only[List.cons.injEq,Value.bool.injEq,and_true]at this
 obtain⟨_,rfl,rfl⟩:=this
 exact⟨A,cc,_,f,A1,_,c1,A2,_,c2,h1,rfl⟩
theorem yb{H:Heap}{gv g w:Nat}{ts:List Value}(hv:cell H ⟨gv,0,none⟩=some (.pointer (some ⟨g,0,none⟩)))(hg:H g=some ⟨.int .i64 (w:Int)::ts,9,68,true⟩)(a6:gv≠g)(hw:(w:Int)≤1000000):
 Fn Tryz.prog 59 #[.pointer (some ⟨gv,0,none⟩)] H (fun v H'=>v = .int .i64 (w:Int)∧H'=ins H g ⟨.int .i64 ((w+1:Nat):Int)::ts,9,68,true⟩):=by
 have nL:cell H ((⟨g,0,none⟩:Addr))=some (.int .i64 (w:Int)):=by simp[cell,hg]
 have wK:∀e,cell (ins H g e) ⟨gv,0,none⟩=some (.pointer (some ⟨g,0,none⟩)):=fun e=>by
  simp only[cell,bA _ _ a6]at hv⊢;exact hv
 refine aW (args:=[_]) Tryz.func59 rfl rfl Tryz.ntmps59 rfl rfl fun w0=> ?_;refine aj [0] rfl ?_;refine af (ab 1 rfl (ae [0] ?_));refine af (aQ ag rfl rfl rfl (hv) (ab 1 rfl (a4 ag rfl rfl rfl (aQ ag rfl rfl rfl (nL) (aO rfl rfl ⟨by omega,by omega⟩ (ab 1 rfl (a4 ag rfl rfl rfl ?_)))))));obtain⟨ti,ak,al⟩:=oF;refine mJ (g:=g) (o:=0) (.inl rfl) rfl hg rfl (by show 0+1≤(Value.int .i64 (w:Int)::ts).length;simp) ak al rfl rfl rfl rfl ?_;rw[show ({(⟨.int .i64 (w:Int)::ts,9,68,true⟩:aG)with xs:=aC (.int .i64 (w:Int)::ts) 0 [.int .i64 ((w:Int)+1)]}:aG)=⟨.int .i64 ((w+1:Nat):Int)::ts,9,68,true⟩from rfl];refine ae [0] ?_;refine af (aQ ag rfl rfl rfl (wK _) (ab 1 rfl (a4 ag rfl rfl rfl (aQ ag rfl rfl rfl (show cell (ins H g ⟨.int .i64 ((w+1:Nat):Int)::ts,9,68,true⟩) ⟨g,0,none⟩=some (.int .i64 ((w+1:Nat):Int))from by simp[cell,ins]) ?_))));refine di rfl rfl ⟨by omega,by omega⟩ (ab 1 rfl (ae [1] ?_));refine aw ⟨.inr rfl,_,.tmp rfl (.nil),?_⟩;refine⟨?_,rfl⟩
 show Value.int .i64 (((w+1:Nat):Int)-1)=_
 rw[show (((w+1:Nat):Int)-1)=(w:Int) by omega]
end Go.ar
namespace Go.ar
open Go.Proofs Num
theorem vB{H:Heap}{u:Value}{l:List Nat}(hu:fI H u l)(a7:Lt l)(hm:(l.length:Int)≤17592186044416):
 Fn Tryz.prog 107 #[u] H (jV H (val l)):=by
 obtain⟨A,c,rfl,hc,hr⟩:=hu;refine aW (args:=[_]) Tryz.func107 rfl rfl Tryz.ntmps107 rfl rfl fun w0=> ?_;refine aj [0] rfl ?_;refine af (ab 1 rfl (ae [0] ?_));refine af (ab 3 rfl (ae [0,3] ?_));refine aq (aD (gj (fun(k:Nat)=>k) (fun(k:Nat)=>put (put (emp) 0 (.val (.slice A l.length c))) 3 (.val (.int .i64 (k:Int)))) (fun(k:Nat) H'=>H'=H∧k≤l.length∧val (l.take k)=val l) l.length (⟨rfl,Nat.le_refl _,by simp⟩) ay ?_));rintro k H1 ⟨rfl,hk,hv⟩;refine aq ?_
 rcases Nat.eq_zero_or_pos k with Dj | Dj
 ·
  skip
  refine af (ab 1 rfl (aS false rfl rfl (lO (by omega)) (ab 8 rfl (ae [0,3,15] ?_))));refine dG rfl (bC (aj [0,3] rfl ?_));refine af (ab 2 rfl (qL ag rfl rfl (.inl ⟨rfl,rfl⟩) (.inr ⟨_,_,rfl,rfl⟩) (by omega) (by omega) ?_));rw[zu];refine dY Tryz.underlying27 cW rfl rfl (sB _) (hr.take k) (by simp[uz];omega) (fun u hu=>kV _ u (List.mem_of_mem_take hu)) (by simp;omega) (by simp;omega) ?_;intro v1 H2 ha;rw[←zt,Nat.sub_zero]at ha;refine ab 1 rfl (ae [2] ?_);refine aw ⟨.inr rfl,_,.tmp rfl (.nil),?_⟩;have e:=Dh a7 hk hv (.inl Dj);have h1:=(App.lP (a:=[]) (b:=l.take k) ha rfl (by simp;omega)).my;rw[List.nil_append,←e]at h1;exact⟨ha.le,h1⟩
 ·
  obtain⟨x,hx⟩:∃x,l[k-1]? = some x:=⟨_,List.getElem?_eq_getElem (by omega)⟩;refine af (ab 1 rfl (aS true rfl rfl (pO (by omega)) (ab 3 rfl (di rfl rfl ⟨by omega,by omega⟩ (a9 ag rfl rfl rfl rfl rfl (hr) (cH (by rw[show ((k:Int)-1).toNat=k-1 by omega];exact hx)) (by omega) (by omega) fun _=> ?_)))));refine ab 2 rfl (ae [0,3,15] ?_);refine az rfl (fun hb=> ?_) (fun hb=> ?_)
  ·
   have hb:x=0:=by simpa using hb
   refine ax (aj [0,3] rfl ?_);refine aD (aF rfl (ab 1 rfl (di rfl rfl ⟨by omega,by omega⟩ (ab 1 rfl (aA ?_)))));exact⟨k-1,by omega,ay,rfl,by omega,by have:=ij hx;rw[show k-1+1=k by omega,hb,Nat.mul_zero,Nat.add_zero]at this;rw[←this];exact hv⟩
  have hb:x≠0:=by simpa using hb
  refine bC (aj [0,3] rfl ?_);refine af (ab 2 rfl (qL ag rfl rfl (.inl ⟨rfl,rfl⟩) (.inr ⟨_,_,rfl,rfl⟩) (by omega) (by omega) ?_));rw[zu];refine dY Tryz.underlying27 cW rfl rfl (sB _) (hr.take k) (by simp[uz];omega) (fun u hu=>kV _ u (List.mem_of_mem_take hu)) (by simp;omega) (by simp;omega) ?_;intro v1 H2 ha;rw[←zt,Nat.sub_zero]at ha;refine ab 1 rfl (ae [2] ?_);refine aw ⟨.inr rfl,_,.tmp rfl (.nil),?_⟩;have e:=Dh a7 hk hv (.inr ⟨x,hx,hb⟩);have h1:=(App.lP (a:=[]) (b:=l.take k) ha rfl (by simp;omega)).my;rw[List.nil_append,←e]at h1;exact⟨ha.le,h1⟩
theorem OS{H:Heap}{u:Value}{l:List Nat}(hu:fI H u l)(uB:∀x,x∈l→x<4294967296)(hm:(l.length:Int)≤8796093022208):
 Fn Tryz.prog 85 #[u] H (jV H (val l)):=by
 obtain⟨A,c,rfl,hc,hr⟩:=hu;refine aW (args:=[_]) Tryz.func85 rfl rfl Tryz.ntmps85 rfl rfl fun w0=> ?_;refine aj [0] rfl ?_;refine af (ab 1 rfl (ae [0] ?_));refine af (ab 1 rfl (ae [0,3] ?_));refine af (ab 1 rfl (ae [0,3,4] ?_));refine aq (af (ab 1 rfl (ae [0,3,4,5] ?_)));refine aD (nz (fun(k:Nat)(v:Value)(o:List Nat)(cr:Nat)=>l.length-k) (fun(k:Nat)(v:Value)(o:List Nat)(cr:Nat)=>put (put (put (put (emp) 0 (.val (.slice A l.length c))) 3 (.val (v))) 4 (.val (.int .u64 (cr:Int)))) 5 (.val (.int .i64 (k:Int)))) (fun(k:Nat)(v:Value)(o:List Nat)(cr:Nat) H'=>Heap.le H H'∧il H' v o∧k≤l.length∧o.length=k∧Lt o∧cr≤4∧val o+B^k*cr=val (l.take k)) 0 _ [] 0 (⟨.refl _,sB _,by omega,rfl,Lt.nil,by omega,by simp[val]⟩) ay ?_);rintro k v o cr H1 ⟨hle,bW,hk,cI,cV,iH,hv⟩;obtain⟨Ao,co,rfl⟩:=bE.form bW;refine aq (af (ab 4 rfl (ae [0,3,4,5,9] ?_)));refine az rfl (fun hb=> ?_) (fun hb=> ?_)
 ·
  have hb:k<l.length:=by simpa using hb
  obtain⟨p,hp⟩:∃p,l[k]? = some p:=⟨_,List.getElem?_eq_getElem hb⟩;have Vh:=uB p (List.mem_of_getElem? hp);refine ax (aj [0,3,4,5] rfl ?_);refine aq (aD (af (ab 3 rfl (a9 ag rfl rfl rfl rfl rfl (hr.le hle) (cH hp) (by omega) (by omega) fun _=>(cF ag rfl rfl rfl ⟨by omega,by omega⟩ (aO rfl rfl ⟨by omega,by omega⟩ (ab 1 rfl (ae [0,3,4,5] ?_))))))));refine af (ab 2 rfl (kp rfl rfl (by omega) (by omega) (cF ag rfl rfl rfl ⟨by omega,by omega⟩ (cU Tryz.underlying27 cW rfl rfl rfl rfl rfl rfl rfl ?_))));intro gb bH;refine dY Tryz.underlying27 cW rfl rfl (bW.ins _ bH) (nC (y:=(cr+p)%1000000000) rfl) (rfl) (kV _) (by omega) (by omega) ?_;intro v1 H2 ha;refine ab 1 rfl (ae [0,3,4,5] ?_);refine aF rfl (ab 1 rfl (jy rfl rfl (by omega) (by omega) ⟨by omega,by omega⟩ (ab 1 rfl (aA (aj [0,3,4,5] rfl ?_)))));refine aF rfl (ab 1 rfl (aO rfl rfl ⟨by omega,by omega⟩ (ab 1 rfl (aA ?_))));have dO:=wN (s:=cr+p) (u:=val (l.take (k+1))) cI hv rfl (ij hp);exact⟨k+1,v1,o ++ [(cr+p)%B],(cr+p)/B,by omega,ay,(hle.trans (Heap.a0 _ bH)).trans ha.le,ha.lP rfl rfl,by omega,by simp[cI],cV.snoc (Nat.mod_lt _ jT),by rw[bG];omega,dO⟩
 ·
  have hb:l.length≤k:=by simpa using hb
  obtain rfl:k=l.length:=by omega
  rw[List.take_length]at hv;refine bC (aj [3,4] rfl ?_);refine GV (fun(v:Value)(o:List Nat)=>put (emp) 3 (.val (v))) (fun(v:Value)(o:List Nat) H'=>Heap.le H H'∧il H' v o∧o.length≤l.length+1∧Lt o∧val o=val l) ?_ ?_
  ·
   refine af (ab 2 rfl (ae [3,4,28] ?_));refine az rfl (fun hb=> ?_) (fun hb=> ?_)
   ·
    have hb:0<cr:=by simpa using hb
    refine aF rfl (ab 2 rfl (cF ag rfl rfl rfl ⟨by omega,by omega⟩ (cU Tryz.underlying27 cW rfl rfl rfl rfl rfl rfl rfl ?_)));intro gb bH;refine dY Tryz.underlying27 cW rfl rfl (bW.ins _ bH) (nC (y:=cr) rfl) (rfl) (kV _) (by omega) (by omega) ?_;intro v1 H2 ha;refine ab 1 rfl (aA ?_);exact⟨v1,o ++ [cr],(by repeat (first | exact iZ _ | refine dM rfl ?_ | refine dM (jA (by omega)) ?_)),(hle.trans (Heap.a0 _ bH)).trans ha.le,ha.lP rfl rfl,by simp;omega,cV.snoc (by rw[bG];omega),by rw[nA,cI];exact hv⟩
   have hb:cr=0:=by simpa using hb
   refine ax ?_;exact⟨_,o,(by repeat (first | exact iZ _ | refine dM rfl ?_ | refine dM (jA (by omega)) ?_)),hle,bW,by omega,cV,by rw[hb,Nat.mul_zero]at hv;omega⟩
  rintro v o H3 ⟨hle,bW,cI,cV,hv⟩;refine af (ab 1 rfl (au rfl rfl (vB bW.my cV (by omega)) ?_));intro v1 H4 hp;refine ab 1 rfl (ae [2] ?_);refine aw ⟨.inr rfl,_,.tmp rfl (.nil),?_⟩;exact⟨hle.trans hp.le,by have:=hp.nat;rwa [hv]at this⟩
theorem AW{H:Heap}{x:Nat}(hx:x<18446744073709551616):
 Fn Tryz.prog 51 #[.int .u64 (x:Int)] H (jV H x):=by
 refine aW (args:=[_]) Tryz.func51 rfl rfl Tryz.ntmps51 rfl rfl fun w0=> ?_;refine aj [0] rfl ?_;refine af (ab 1 rfl (ae [0] ?_));refine af (ab 1 rfl (ae [0,3] ?_));refine aq (aD (jb (fun(y:Nat)(v:Value)(o:List Nat)=>y) (fun(y:Nat)(v:Value)(o:List Nat)=>put (put (emp) 0 (.val (.int .u64 (y:Int)))) 3 (.val (v))) (fun(y:Nat)(v:Value)(o:List Nat) H'=>Heap.le H H'∧il H' v o∧y≤x∧o++ah y=ah x) x (.slice none 0 0) [] (⟨.refl _,sB _,Nat.le_refl _,rfl⟩) ay ?_));rintro y v o H1 ⟨hle,bW,qQ,ho⟩;obtain⟨A,c,rfl⟩:=bE.form bW
 have cI:o.length≤(ah x).length:=by rw[←ho];simp
 have cj:(ah x).length≤3:=gm.2 (by rw[bG];omega);refine aq (af (ab 2 rfl (ae [0,3,5] ?_)));refine az rfl (fun hb=> ?_) (fun hb=> ?_)
 ·
  have hb:0<y:=by simpa using hb
  refine ax (aj [0,3] rfl ?_);refine aD (af (ab 2 rfl (kp rfl rfl (by omega) (by omega) (cF ag rfl rfl rfl ⟨by omega,by omega⟩ (cU Tryz.underlying27 cW rfl rfl rfl rfl rfl rfl rfl ?_)))));intro gb bH;refine dY Tryz.underlying27 cW rfl rfl (bW.ins _ bH) (nC (Mu y 1000000000)) (rfl) (kV _) (by omega) (by omega) ?_;intro v1 H2 ha;refine ab 1 rfl (ae [0,3] ?_);refine aF rfl (ab 1 rfl (jy rfl rfl (by omega) (by omega) ⟨by omega,by omega⟩ (ab 1 rfl (aA ?_))))
  have fE:0<y:=by omega
  rw[uy fE]at ho;exact⟨y/B,v1,o ++ [y%B],Nat.div_lt_self fE (by decide),ay,(hle.trans (Heap.a0 _ bH)).trans ha.le,ha.lP rfl rfl,Nat.le_trans (Nat.div_le_self _ _) qQ,by simpa using ho⟩
 ·
  have hb:y=0:=by simpa using hb
  refine bC (aj [3] rfl ?_);refine af (ab 2 rfl (ae [2] ?_));refine aw ⟨.inr rfl,_,.tmp rfl (.nil),?_⟩;subst hb;exact⟨hle,wR (bW.my) (by rw[show o=ah x by simpa [oH]using ho];exact dU x) (by rw[show o=ah x by simpa [oH]using ho];exact ck x)⟩
theorem EK{H:Heap}{u v:Value}{x y:Nat}(hx:cB H u x)(hy:cB H v y)(hm:((ah x).length:Int)≤35184372088832):
 Fn Tryz.prog 98 #[u,v] H (nH H (.int .i64 (gV x y))):=by
 obtain⟨A,c,rfl,hc,hr⟩:=hx
 obtain⟨A',c',rfl,gF,cM⟩:=hy;refine aW (args:=[_,_]) Tryz.func98 rfl rfl Tryz.ntmps98 rfl rfl fun w0=> ?_;refine aj [0,1] rfl ?_;refine af (ab 1 rfl (ae [0,1] ?_));refine aq (af (ab 5 rfl (ae [0,1,10] ?_)));refine az rfl (fun hb=> ?_) (fun hb=> ?_)
 ·
  have hl:(ah x).length≠(ah y).length:=by simp at hb;omega
  refine aq (af (ab 5 rfl (ae [15] ?_)));refine az rfl (fun hb=> ?_) (fun hb=> ?_)
  ·
   simp at hb
   refine af (ab 1 rfl (ae [4] ?_));refine aw ⟨.inr rfl,_,.tmp rfl (.nil),?_⟩;exact⟨rfl,by rw[Dd (Df hb)];rfl⟩
  ·
   simp at hb
   refine ax (aj [] rfl ?_);refine af (ab 1 rfl (ae [4] ?_));refine aw ⟨.inr rfl,_,.tmp rfl (.nil),?_⟩;exact⟨rfl,by rw[De (Df (by omega))];rfl⟩
 ·
  have hl:(ah x).length=(ah y).length:=by simp at hb;omega
  refine ax (aj [0,1] rfl ?_);refine aq (af (ab 2 rfl (di rfl rfl ⟨by omega,by omega⟩ (ab 1 rfl (ae [0,1,5] ?_)))));refine aD (gj (fun(k:Nat)=>k) (fun(k:Nat)=>put (put (put (emp) 0 (.val (.slice A (ah x).length c))) 1 (.val (.slice A' (ah y).length c'))) 5 (.val (.int .i64 ((k:Int)-1)))) (fun(k:Nat) H'=>H'=H∧k≤(ah x).length∧(ah x).drop k=(ah y).drop k) (ah x).length (⟨rfl,Nat.le_refl _,by rw[List.drop_of_length_le (Nat.le_refl _),List.drop_of_length_le (by omega)]⟩) ay ?_);rintro k H1 ⟨rfl,hk,hd⟩;refine aq (af (ab 2 rfl (ae [0,1,5,20] ?_)));refine az rfl (fun hb=> ?_) (fun hb=> ?_)
  ·
   simp at hb
   obtain⟨p,hp⟩:∃p,(ah x)[k-1]? = some p:=⟨_,List.getElem?_eq_getElem (by omega)⟩;obtain⟨q,hq⟩:∃q,(ah y)[k-1]? = some q:=⟨_,List.getElem?_eq_getElem (by omega)⟩
   have hj:((k:Int)-1).toNat=k-1:=by omega
   have ej:(ah x).drop (k-1+1)=(ah y).drop (k-1+1):=by rw[show k-1+1=k by omega];exact hd
   refine ax (aj [0,1,5] rfl ?_);refine aq (aD (aq (cg .bR [0,1,2,3,4,5,6,7,8] follows (by kernel_rfl) ?_)));refine ab 2 rfl (a9 ag rfl rfl rfl rfl rfl (hr) (by rw[hj];exact cH hp) (by omega) (by omega) fun _=> ?_);refine ab 2 rfl (a9 ag rfl rfl rfl rfl rfl (cM) (by rw[hj];exact cH hq) (by omega) (by omega) fun _=> ?_);refine ab 1 rfl (ae [0,1,5,31] ?_);refine az rfl (fun hb=> ?_) (fun hb=> ?_)
   ·
    have jU:p<q:=by simpa using hb
    refine af (ab 1 rfl (ae [4] ?_));refine aw ⟨.inr rfl,_,.tmp rfl (.nil),?_⟩;exact⟨rfl,by rw[Dd (by have:=Dc (dU x).lt hp hq ej jU;rwa [ck,ck]at this)];rfl⟩
   have jU:¬p<q:=by simpa using hb
   refine ax (aj [0,1,5] rfl ?_);refine cg .bR [0,1,2,3,4,5,6,7,8] follows (by kernel_rfl) ?_;refine ab 2 rfl (a9 ag rfl rfl rfl rfl rfl (hr) (by rw[hj];exact cH hp) (by omega) (by omega) fun _=> ?_);refine ab 2 rfl (a9 ag rfl rfl rfl rfl rfl (cM) (by rw[hj];exact cH hq) (by omega) (by omega) fun _=> ?_);refine ab 1 rfl (ae [0,1,5,40] ?_);refine az rfl (fun hb=> ?_) (fun hb=> ?_)
   ·
    have zv:q<p:=by simpa using hb
    refine af (ab 1 rfl (ae [4] ?_));refine aw ⟨.inr rfl,_,.tmp rfl (.nil),?_⟩;exact⟨rfl,by rw[De (by have:=Dc (dU y).lt hq hp ej.symm zv;rwa [ck,ck]at this)];rfl⟩
   have zv:¬q<p:=by simpa using hb
   refine ax (aj [0,1,5] rfl ?_);refine aF rfl (ab 1 rfl (di rfl rfl ⟨by omega,by omega⟩ (ab 1 rfl (aA ?_))))
   obtain rfl:p=q:=by omega
   exact⟨k-1,by omega,ay,rfl,by omega,Mp (by omega) hp hq hd⟩
  simp at hb
  refine bC (aj [] rfl ?_);refine af (ab 1 rfl (ae [4] ?_));refine aw ⟨.inr rfl,_,.tmp rfl (.nil),?_⟩
  obtain rfl:k=0:=by omega
  have:x=y:=by rw[←ck x,←ck y];simpa using congrArg val hd
  exact⟨rfl,by rw[this,Mo];rfl⟩
end Go.ar
namespace Go.ar
open Go.Proofs Num
theorem EL{l:List Nat}(h:Lt l)(k:Nat):(l[k]?).getD 0<1000000000:=by
 cases hq:l[k]? with
 | none=>simp
 | some z=>have:=h.get hq;rw[bG]at this;simpa using this
theorem getD_some{l:List Nat}{k e:Nat}(he:e=(l[k]?).getD 0)(h:k<l.length):l[k]? = some e:=by
 rw[List.getElem?_eq_getElem h]at he⊢;simp at he;rw[he]
theorem getD_none{l:List Nat}{k e:Nat}(he:e=(l[k]?).getD 0)(h:l.length≤k):e=0:=by
 rw[he,List.getElem?_eq_none h];rfl
theorem Yl{H:Heap}{u v:Value}{x y:Nat}(hx:cB H u x)(hy:cB H v y)(hm:((ah x).length:Int)≤8796093022208)(aV:((ah y).length:Int)≤8796093022208):
 Fn Tryz.prog 97 #[u,v] H (jV H (x+y)):=by
 obtain⟨A,c,rfl,hc,hr⟩:=hx
 obtain⟨A',c',rfl,gF,cM⟩:=hy
 have fJ:=(dU x).lt
 have eD:=(dU y).lt
 obtain⟨M,hM⟩:∃M,M=max (ah x).length (ah y).length:=⟨_,rfl⟩;refine aW (args:=[_,_]) Tryz.func97 rfl rfl Tryz.ntmps97 rfl rfl fun w0=> ?_;refine aj [0,1] rfl ?_;refine af (ab 1 rfl (ae [0,1] ?_));refine af (ab 1 rfl (ae [0,1,5] ?_));refine af (ab 1 rfl (ae [0,1,5,6] ?_));refine aq (af (ab 1 rfl (ae [0,1,5,6,7] ?_)));refine aD (nz (fun(k:Nat)(v:Value)(o:List Nat)(cr:Nat)=>M+1-k) (fun(k:Nat)(v:Value)(o:List Nat)(cr:Nat)=>put (put (put (put (put (emp) 0 (.val (.slice A (ah x).length c))) 1 (.val (.slice A' (ah y).length c'))) 5 (.val (v))) 6 (.val (.int .u32 (cr:Int)))) 7 (.val (.int .i64 (k:Int)))) (fun(k:Nat)(v:Value)(o:List Nat)(cr:Nat) H'=>Heap.le H H'∧il H' v o∧k≤M+1∧o.length=k∧Lt o∧cr≤1∧val o+B^k*cr=val ((ah x).take k)+val ((ah y).take k)∧(k=M+1→cr=0∧B^M≤val o)) 0 _ [] 0 (⟨.refl _,sB _,by omega,rfl,Lt.nil,by omega,by simp[val],by omega⟩) ay ?_);rintro k v o cr H1 ⟨hle,bW,hk,cI,cV,iH,hv,Iw⟩;obtain⟨Ao,co,rfl⟩:=bE.form bW;refine GU (put (put (put (put (put (emp) 0 (.val (.slice A (ah x).length c))) 1 (.val (.slice A' (ah y).length c'))) 5 (.val (.slice Ao o.length co))) 6 (.val (.int .u32 (cr:Int)))) 7 (.val (.int .i64 (k:Int)))) (fun H'=>H'=H1∧k≤M∧(k<(ah x).length∨k<(ah y).length∨0<cr)) ?_ ?_
 ·
  by_cases kA:k<(ah x).length
  ·
   skip
   refine af (ab 3 rfl (aS true rfl rfl (sA (by omega)) (ab 10 rfl (ae [0,1,5,6,7,22] ?_))));refine eL rfl (ax ?_);exact⟨ay,rfl,by omega,.inl kA⟩
  ·
   by_cases mR:k<(ah y).length
   skip
   ·
    skip
    refine af (ab 3 rfl (aS false rfl rfl (pM (by omega)) (ab 4 rfl (aS true rfl rfl (sA (by omega)) (ab 5 rfl (ae [0,1,5,6,7,22] ?_))))));refine eL rfl (ax ?_);exact⟨ay,rfl,by omega,.inr (.inl mR)⟩
   skip
   refine af (ab 3 rfl (aS false rfl rfl (pM (by omega)) (ab 4 rfl (aS false rfl rfl (pM (by omega)) (ab 5 rfl (ae [0,1,5,6,7,22] ?_))))));refine az rfl (fun hb=> ?_) (fun hb=> ?_)
   ·
    have hb:0<cr:=by simpa using hb
    refine ax ?_;exact⟨ay,rfl,by omega,.inr (.inr hb)⟩
   have hb:cr=0:=by simpa using hb
   refine bC (aj [5] rfl ?_);refine af (ab 2 rfl (ae [4] ?_));refine aw ⟨.inr rfl,_,.tmp rfl (.nil),?_⟩;subst hb;rw[Nat.mul_zero,Nat.add_zero,List.take_of_length_le (by omega),List.take_of_length_le (by omega),ck,ck]at hv;refine⟨hle,wR bW.my (last_pos cV cI ?_) hv⟩
   rcases Nat.eq_zero_or_pos k with e | e
   ·exact .inl e
   right
   by_cases h1:k=M+1
   ·
    have:=(Iw h1).2;rw[show k-1=M by omega];exact this
   have h2:k=M:=by omega
   rw[hv]
   rcases Nat.le_total (ah x).length (ah y).length with h3 | h3
   ·
    have h4:k=(ah y).length:=by omega
    have h5:=Ht (y:=y) (Nat.pos_of_ne_zero fun e0=>by rw[ik.2 e0]at h4;omega);rw[h4];omega
   have h4:k=(ah x).length:=by omega
   have h5:=Ht (y:=x) (Nat.pos_of_ne_zero fun e0=>by rw[ik.2 e0]at h4;omega);rw[h4];omega
 ·
  rintro H2 ⟨rfl,hkM,ac6⟩;obtain⟨da,AY⟩:∃e,e=((ah x)[k]?).getD 0:=⟨_,rfl⟩;obtain⟨db,ot⟩:∃e,e=((ah y)[k]?).getD 0:=⟨_,rfl⟩
  have ac7:da<1000000000:=by rw[AY];exact EL fJ k
  have ac8:db<1000000000:=by rw[ot];exact EL eD k
  refine aq (aD (af (ab 2 rfl (ae [0,1,5,7,8] ?_))));refine oD (fun(sv:Int)=>put (put (put (put (put (emp) 0 (.val (.slice A (ah x).length c))) 1 (.val (.slice A' (ah y).length c'))) 5 (.val (.slice Ao o.length co))) 7 (.val (.int .i64 (k:Int)))) 8 (.val (.int .u32 sv))) (fun(sv:Int) H'=>H'=H2∧sv=(cr:Int)+da) ?_ ?_
  ·
   refine af (ab 4 rfl (ae [0,1,5,7,8,29] ?_));refine az rfl (fun hb=> ?_) (fun hb=> ?_)
   ·
    have hb:k<(ah x).length:=by simpa using hb
    have hz:=getD_some AY hb;refine aF rfl (ab 3 rfl (a9 ag rfl rfl rfl rfl rfl (hr.le hle) (cH hz) (by omega) (by omega) fun _=>(aO rfl rfl ⟨by omega,by omega⟩ (ab 1 rfl (aA ?_)))));exact⟨(cr:Int)+da,ay,rfl,rfl⟩
   have hb:(ah x).length≤k:=by simpa using hb
   have hz:=getD_none AY hb;refine ax ?_;exact⟨(cr:Int),ay,rfl,by omega⟩
  rintro sv H3 ⟨rfl,qR⟩;refine oD (fun(EM:Int)=>put (put (put (put (put (emp) 0 (.val (.slice A (ah x).length c))) 1 (.val (.slice A' (ah y).length c'))) 5 (.val (.slice Ao o.length co))) 7 (.val (.int .i64 (k:Int)))) 8 (.val (.int .u32 EM))) (fun(EM:Int) H'=>H'=H3∧EM=(cr:Int)+da+db) ?_ ?_
  ·
   refine af (ab 4 rfl (ae [0,1,5,7,8,39] ?_));refine az rfl (fun hb=> ?_) (fun hb=> ?_)
   ·
    have hb:k<(ah y).length:=by simpa using hb
    have hz:=getD_some ot hb;refine aF rfl (ab 3 rfl (a9 ag rfl rfl rfl rfl rfl (cM.le hle) (cH hz) (by omega) (by omega) fun _=>(aO rfl rfl ⟨by omega,by omega⟩ (ab 1 rfl (aA ?_)))));exact⟨sv+db,ay,rfl,by omega⟩
   have hb:(ah y).length≤k:=by simpa using hb
   have hz:=getD_none ot hb;refine ax ?_;exact⟨sv,ay,rfl,by omega⟩
  rintro EM H4 ⟨rfl,ac9⟩;refine af (ab 1 rfl (jy rfl rfl (by omega) (by omega) ⟨by omega,by omega⟩ (ab 1 rfl (ae [0,1,5,6,7,8] ?_))));refine aF rfl (ab 2 rfl (kp rfl rfl (by omega) (by omega) (cU Tryz.underlying27 cW rfl rfl rfl rfl rfl rfl rfl ?_)));intro gb bH;refine dY Tryz.underlying27 cW rfl rfl (bW.ins _ bH) (nC (y:=(cr+da+db)%1000000000) (by omega)) (rfl) (kV _) (by omega) (by omega) ?_;intro v1 H5 ha;refine ab 1 rfl (aA (aj [0,1,5,6,7] rfl ?_));refine aF rfl (ab 1 rfl (aO rfl rfl ⟨by omega,by omega⟩ (ab 1 rfl (aA ?_))));have dO:=wN (s:=cr+da+db) (a:=cr) (b:=da+db) (u:=val ((ah x).take (k+1))+val ((ah y).take (k+1))) cI hv (by omega) (by rw[sy,sy,←AY,←ot,Nat.mul_add];omega);refine⟨k+1,v1,o ++ [(cr+da+db)%B],(cr+da+db)/1000000000,by omega,ay,(hle.trans (Heap.a0 _ bH)).trans ha.le,ha.lP rfl rfl,by omega,by simp[cI],cV.snoc (Nat.mod_lt _ jT),by omega,dO,fun e=> ?_⟩;have h1:=getD_none AY (by omega);have h2:=getD_none ot (by omega)
  obtain rfl:k=M:=by omega
  have h3:cr=1:=by omega
  subst h1 h2 h3;rw[nA,cI,show (1+0+0)%B=1 from rfl,show (1+0+0)/1000000000=0 from rfl];exact⟨rfl,by omega⟩
end Go.ar
namespace Go.ar
open Go.Proofs Num
theorem EN{H:Heap}{u v:Value}{x y:Nat}(hx:cB H u x)(hy:cB H v y)(qQ:y≤x)(hm:((ah x).length:Int)≤8796093022208):
 Fn Tryz.prog 99 #[u,v] H (jV H (x-y)):=by
 obtain⟨A,c,rfl,hc,hr⟩:=hx
 obtain⟨A',c',rfl,gF,cM⟩:=hy
 have fJ:=(dU x).lt
 have eD:=(dU y).lt
 have hl:=jB qQ;refine aW (args:=[_,_]) Tryz.func99 rfl rfl Tryz.ntmps99 rfl rfl fun w0=> ?_;refine aj [0,1] rfl ?_;refine af (ab 1 rfl (ae [0,1] ?_));refine af (ab 2 rfl (iF Tryz.underlying27 cW rfl rfl rfl (by omega) (by omega) (by omega) (by omega) ?_));intro g hg;rw[show (((ah x).length:Int)).toNat=(ah x).length from by omega,sD];have mz:=fun e=>hr.le (Heap.a0 (g:=g) e hg);have zx:=fun e=>cM.le (Heap.a0 (g:=g) e hg);refine ab 1 rfl (ae [0,1,5] ?_);refine af (ab 1 rfl (ae [0,1,5,6] ?_));refine aq (af (ab 1 rfl (ae [0,1,5,6,7] ?_)));refine aD (jb (fun(k:Nat)(o:List Nat)(br:Nat)=>(ah x).length-k) (fun(k:Nat)(o:List Nat)(br:Nat)=>put (put (put (put (put (emp) 0 (.val (.slice A (ah x).length c))) 1 (.val (.slice A' (ah y).length c'))) 5 (.val (.slice (some ⟨g,0,none⟩) (ah x).length (ah x).length))) 6 (.val (.int .u32 (br:Int)))) 7 (.val (.int .i64 (k:Int)))) (fun(k:Nat)(o:List Nat)(br:Nat) H'=>H'=ins H g (cL o (ah x).length)∧k≤(ah x).length∧o.length=(ah x).length∧Lt o∧br≤1∧val ((ah x).take k)+B^k*br=val (o.take k)+val ((ah y).take k)) 0 _ 0 (⟨rfl,by omega,by simp,Lt.replicate _,by omega,by simp[val]⟩) ay ?_)
 rintro k o br H1 ⟨rfl,hk,cI,cV,pQ,hv⟩;refine aq (af (ab 4 rfl (ae [0,1,5,6,7,15] ?_)));refine az rfl (fun hb=> ?_) (fun hb=> ?_)
 ·
  have hb:k<(ah x).length:=by simpa using hb
  obtain⟨d,hd⟩:∃d,(ah x)[k]? = some d:=⟨_,List.getElem?_eq_getElem hb⟩;have jf:=fJ.get hd;rw[bG]at jf;obtain⟨e,he⟩:∃e,e=((ah y)[k]?).getD 0:=⟨_,rfl⟩
  have wS:e<1000000000:=by rw[he];exact EL eD k
  refine ax (aj [0,1,5,6,7] rfl ?_);refine aq (aD (af (ab 2 rfl (ae [0,1,5,7,8] ?_))));refine oD (fun(sv:Int)=>put (put (put (put (put (emp) 0 (.val (.slice A (ah x).length c))) 1 (.val (.slice A' (ah y).length c'))) 5 (.val (.slice (some ⟨g,0,none⟩) (ah x).length (ah x).length))) 7 (.val (.int .i64 (k:Int)))) 8 (.val (.int .u32 sv))) (fun(sv:Int) H'=>H'=ins H g (cL o (ah x).length)∧sv=(br:Int)+e) ?_ ?_
  ·
   refine af (ab 4 rfl (ae [0,1,5,7,8,22] ?_));refine az rfl (fun hb=> ?_) (fun hb=> ?_)
   ·
    have hb:k<(ah y).length:=by simpa using hb
    have hz:=getD_some he hb;refine aF rfl (ab 3 rfl (a9 ag rfl rfl rfl rfl rfl (zx _) (cH hz) (by omega) (by omega) fun _=>(aO rfl rfl ⟨by omega,by omega⟩ (ab 1 rfl (aA ?_)))));exact⟨(br:Int)+e,ay,rfl,rfl⟩
   have hb:(ah y).length≤k:=by simpa using hb
   have hz:=getD_none he hb;refine ax ?_;exact⟨(br:Int),ay,rfl,by omega⟩
  ·
   rintro sv H4 ⟨rfl,qR⟩;refine af (ab 2 rfl (a9 ag rfl rfl rfl rfl rfl (mz _) (cH hd) (by omega) (by omega) fun _=>(ab 2 rfl (ae [0,1,5,7,8,34] ?_))));refine az rfl (fun hb=> ?_) (fun hb=> ?_)
   ·
    have hb:sv≤d:=by simpa using hb
    refine aF rfl (ab 4 rfl (a9 ag rfl rfl rfl rfl rfl (mz _) (cH hd) (by omega) (by omega) fun _=>(ab 1 rfl (di rfl rfl ⟨by omega,by omega⟩ ?_))));obtain⟨ti,ak,al⟩:=kU;refine dP (.inl rfl) ag rfl rfl rfl (by omega) (by omega) (bx _ _ _) rfl (by rw[kW];omega) ak al (fun _=>rfl) rfl rfl rfl fun _=> ?_;refine ab 1 rfl (aA (aj [0,1,5,6,7] rfl ?_));refine aF rfl (ab 1 rfl (aO rfl rfl ⟨by omega,by omega⟩ (ab 1 rfl (aA ?_))));have dO:=zr (o:=o.take k) (s:=d-br-e) (br':=0) (d:=d) (e:=e) (by simp;omega) hv (by omega) (ij hd) (show val ((ah y).take (k+1))=val ((ah y).take k)+B^k*e by rw[sy,←he]);rw[←sE (by omega)]at dO;exact⟨k+1,o.set k (d-br-e),0,by omega,ay,by rw[pP (y:=d-br-e) (by omega)];rfl,by omega,by simp[cI],cV.set (by rw[bG];omega),by omega,dO⟩
   have hb:(d:Int)<sv:=by simpa using hb
   refine aF rfl (ab 4 rfl (a9 ag rfl rfl rfl rfl rfl (mz _) (cH hd) (by omega) (by omega) fun _=>(aO rfl rfl ⟨by omega,by omega⟩ (ab 1 rfl (di rfl rfl ⟨by omega,by omega⟩ ?_)))));obtain⟨ti,ak,al⟩:=kU;refine dP (.inl rfl) ag rfl rfl rfl (by omega) (by omega) (bx _ _ _) rfl (by rw[kW];omega) ak al (fun _=>rfl) rfl rfl rfl fun _=> ?_;refine ab 1 rfl (aA (aj [0,1,5,6,7] rfl ?_));refine aF rfl (ab 1 rfl (aO rfl rfl ⟨by omega,by omega⟩ (ab 1 rfl (aA ?_))));have dO:=zr (o:=o.take k) (s:=d+1000000000-br-e) (br':=1) (d:=d) (e:=e) (by simp;omega) hv (by rw[bG];omega) (ij hd) (show val ((ah y).take (k+1))=val ((ah y).take k)+B^k*e by rw[sy,←he]);rw[←sE (by omega)]at dO;exact⟨k+1,o.set k (d+1000000000-br-e),1,by omega,ay,by rw[pP (y:=d+1000000000-br-e) (by omega)];rfl,by omega,by simp[cI],cV.set (by rw[bG];omega),by omega,dO⟩
 ·
  have hb:(ah x).length≤k:=by simpa using hb
  obtain rfl:k=(ah x).length:=by omega
  rw[List.take_length,List.take_of_length_le hl,ck,ck,List.take_of_length_le (by omega)]at hv;have uC:=pJ cV;rw[cI]at uC
  have Hj:br=0:=by
   rcases Nat.eq_zero_or_pos br with h|h
   ·exact h
   ·
    obtain rfl:br=1:=by omega
    omega
  refine bC (aj [5] rfl ?_);refine af (ab 1 rfl (au rfl rfl (vB (uA _ _ o _ _ cI.symm (Nat.le_refl _)) cV (by omega)) ?_));intro v1 H4 hp;refine ab 1 rfl (ae [4] ?_);refine aw ⟨.inr rfl,_,.tmp rfl (.nil),?_⟩;exact⟨(Heap.a0 _ hg).trans hp.le,by have:=hp.nat;rwa [show val o=x-y by rw[Hj]at hv;omega]at this⟩
theorem AZ{H:Heap}{u v:Value}{x y:Nat}(hx:cB H u x)(hy:cB H v y)(hm:((ah x).length:Int)<8796093022208)(aV:((ah y).length:Int)<8796093022208):
 Fn Tryz.prog 88 #[u,v] H (jV H (x*y)):=by
 obtain⟨A,c,rfl,hc,hr⟩:=hx
 obtain⟨A',c',rfl,gF,cM⟩:=hy
 have fJ:=(dU x).lt
 have eD:=(dU y).lt;refine aW (args:=[_,_]) Tryz.func88 rfl rfl Tryz.ntmps88 rfl rfl fun w0=> ?_;refine aj [0,1] rfl ?_;refine af (ab 1 rfl (ae [0,1] ?_));refine af (ab 4 rfl (aO rfl rfl ⟨by omega,by omega⟩ (aO rfl rfl ⟨by omega,by omega⟩ (iF Tryz.underlying27 cW rfl rfl rfl (by omega) (by omega) (by omega) (by omega) ?_))));intro g hg;rw[show (((ah x).length:Int)+((ah y).length:Int)+1).toNat=((ah x).length+(ah y).length+1)from by omega,sD];have mz:=fun e=>hr.le (Heap.a0 (g:=g) e hg);have zx:=fun e=>cM.le (Heap.a0 (g:=g) e hg);refine ab 1 rfl (ae [0,1,5] ?_);refine aq (af (ab 1 rfl (ae [0,1,5,6] ?_)));refine aD (jS (fun(i:Nat)(o:List Nat)=>(ah x).length-i) (fun(i:Nat)(o:List Nat)=>put (put (put (put (emp) 0 (.val (.slice A (ah x).length c))) 1 (.val (.slice A' (ah y).length c'))) 5 (.val (.slice (some ⟨g,0,none⟩) ((ah x).length+(ah y).length+1) ((ah x).length+(ah y).length+1)))) 6 (.val (.int .i64 (i:Int)))) (fun(i:Nat)(o:List Nat) H'=>H'=ins H g (cL o ((ah x).length+(ah y).length+1))∧i≤(ah x).length∧o.length=((ah x).length+(ah y).length+1)∧Lt o∧nD o (i+(ah y).length)∧val o=val ((ah x).take i)*y) 0 _ (⟨rfl,by omega,by simp,Lt.replicate _,ME _ _,by simp[val,Mr]⟩) ay ?_)
 rintro i o H1 ⟨rfl,hi,cI,cV,hz,hv⟩;refine aq (af (ab 4 rfl (ae [0,1,5,6,19] ?_)));refine az rfl (fun hb=> ?_) (fun hb=> ?_)
 ·
  have hb:i<(ah x).length:=by simpa using hb
  obtain⟨d,hd⟩:∃d,(ah x)[i]? = some d:=⟨_,List.getElem?_eq_getElem hb⟩;have jf:=fJ.get hd;rw[bG]at jf;refine ax (aj [0,1,5,6] rfl ?_);refine aq (aD (af (ab 1 rfl (ae [0,1,5,6,7] ?_))));refine af (ab 1 rfl (ae [0,1,5,6,7,8] ?_));refine aD (jb (fun(j:Nat)(o2:List Nat)(cr:Nat)=>(ah y).length+1-j) (fun(j:Nat)(o2:List Nat)(cr:Nat)=>put (put (put (put (put (put (emp) 0 (.val (.slice A (ah x).length c))) 1 (.val (.slice A' (ah y).length c'))) 5 (.val (.slice (some ⟨g,0,none⟩) ((ah x).length+(ah y).length+1) ((ah x).length+(ah y).length+1)))) 6 (.val (.int .i64 (i:Int)))) 7 (.val (.int .u64 (cr:Int)))) 8 (.val (.int .i64 (j:Int)))) (fun(j:Nat)(o2:List Nat)(cr:Nat) H'=>H'=ins H g (cL o2 ((ah x).length+(ah y).length+1))∧j≤(ah y).length+1∧o2.length=((ah x).length+(ah y).length+1)∧Lt o2∧cr<1000000000∧nD o2 (i+(ah y).length+1)∧(j≤(ah y).length→nD o2 (i+(ah y).length))∧(j=(ah y).length+1→cr=0)∧val o2+B^(i+j)*cr=val ((ah x).take i)*y+B^i*d*val ((ah y).take j)) 0 o 0 (⟨rfl,by omega,cI,cV,by omega,fun t z ht=>hz t z (by omega),fun _=>hz,by omega,by simp[val,hv]⟩) ay ?_);rintro j o2 cr H1 ⟨rfl,hj,zy,uE,iH,kX,xY,qT,de⟩
  refine GU (put (put (put (put (put (put (emp) 0 (.val (.slice A (ah x).length c))) 1 (.val (.slice A' (ah y).length c'))) 5 (.val (.slice (some ⟨g,0,none⟩) ((ah x).length+(ah y).length+1) ((ah x).length+(ah y).length+1)))) 6 (.val (.int .i64 (i:Int)))) 7 (.val (.int .u64 (cr:Int)))) 8 (.val (.int .i64 (j:Int)))) (fun H'=>H'=ins H g (cL o2 ((ah x).length+(ah y).length+1))∧j≤(ah y).length) ?_ ?_
  ·
   by_cases hjb:j<(ah y).length
   ·
    skip
    refine af (ab 3 rfl (aS true rfl rfl (sA (by omega)) (ab 4 rfl (ae [0,1,5,6,7,8,29] ?_))));refine eL rfl (ax ?_);exact⟨ay,rfl,by omega⟩
   skip
   refine af (ab 3 rfl (aS false rfl rfl (pM (by omega)) (ab 4 rfl (ae [0,1,5,6,7,8,29] ?_))));refine az rfl (fun hb=> ?_) (fun hb=> ?_)
   ·
    have hb:0<cr:=by simpa using hb
    refine ax ?_;exact⟨ay,rfl,by omega⟩
   have hb:cr=0:=by simpa using hb
   subst hb;rw[List.take_of_length_le (l:=ah y) (i:=j) (by omega),ck,Nat.mul_zero,Nat.add_zero]at de;refine bC (aj [0,1,5,6] rfl ?_);refine aF rfl (ab 1 rfl (aO rfl rfl ⟨by omega,by omega⟩ (ab 1 rfl (aA ?_))));refine⟨i+1,o2,by omega,ay,rfl,by omega,zy,uE,by rw[Nat.add_right_comm];exact kX,?_⟩;rw[ij hd,Nat.add_mul]
   omega
  ·
   rintro H4 ⟨rfl,Oz⟩;obtain⟨p,hp⟩:∃p,p=((ah y)[j]?).getD 0:=⟨_,rfl⟩
   have sC:p<1000000000:=by rw[hp];exact EL eD j
   obtain⟨e,he⟩:∃e,o2[i+j]? = some e:=⟨_,List.getElem?_eq_getElem (by omega)⟩;have wS:=uE.get he;rw[bG]at wS
   have zz:((i:Int)+(j:Int)).toNat=i+j:=by omega
   have MB:d*p≤999999999*999999999:=Nat.mul_le_mul (by omega) (by omega)
   have MC:(d:Int)*(p:Int)=((d*p:Nat):Int):=by simp
   refine aq (aD (af (ab 4 rfl (aO rfl rfl ⟨by omega,by omega⟩ (a9 ag rfl rfl rfl rfl rfl (Di _ _ _ _) (by rw[zz];exact cH he) (by omega) (by omega) fun _=> ?_)))));refine cF ag rfl rfl rfl ⟨by omega,by omega⟩ (aO rfl rfl ⟨by omega,by omega⟩ (ab 1 rfl (ae [0,1,5,6,7,8] ?_)));refine oD (fun(sv:Int)=>put (put (put (put (put (put (emp) 0 (.val (.slice A (ah x).length c))) 1 (.val (.slice A' (ah y).length c'))) 5 (.val (.slice (some ⟨g,0,none⟩) ((ah x).length+(ah y).length+1) ((ah x).length+(ah y).length+1)))) 6 (.val (.int .i64 (i:Int)))) 7 (.val (.int .u64 sv))) 8 (.val (.int .i64 (j:Int)))) (fun(sv:Int) H'=>H'=ins H g (cL o2 ((ah x).length+(ah y).length+1))∧sv=((d*p+e+cr:Nat):Int)) ?_ ?_
   ·
    refine af (ab 4 rfl (ae [0,1,5,6,7,8,44] ?_));refine az rfl (fun hb=> ?_) (fun hb=> ?_)
    ·
     have hb:j<(ah y).length:=by simpa using hb
     have eI:=getD_some hp hb;refine fc .bR [0,1,2,3,4,5,6,7,8,9,10,11,12,13] follows (by kernel_rfl) ?_;refine ab 3 rfl (a9 ag rfl rfl rfl rfl rfl (mz _) (cH hd) (by omega) (by omega) fun _=>(cF ag rfl rfl rfl ⟨by omega,by omega⟩ (ab 2 rfl (a9 ag rfl rfl rfl rfl rfl (zx _) (cH eI) (by omega) (by omega) fun _=>(cF ag rfl rfl rfl ⟨by omega,by omega⟩ (gG rfl rfl ⟨by omega,by omega⟩ (aO rfl rfl ⟨by omega,by omega⟩ (ab 1 rfl (aA ?_)))))))));exact⟨((d*p+e+cr:Nat):Int),ay,rfl,rfl⟩
    have hb:(ah y).length≤j:=by simpa using hb
    have eI:=getD_none hp hb
    have Ii:d*p=0:=by rw[eI,Nat.mul_zero]
    refine ax ?_;exact⟨((d*p+e+cr:Nat):Int),ay,rfl,rfl⟩
   rintro sv H4 ⟨rfl,qR⟩;refine af (ab 3 rfl (aO rfl rfl ⟨by omega,by omega⟩ (ab 1 rfl (kp rfl rfl (by omega) (by omega) (cF ag rfl rfl rfl ⟨by omega,by omega⟩ ?_)))));obtain⟨ti,ak,al⟩:=kU;refine dP (.inl rfl) ag rfl rfl rfl (by omega) (by omega) (bx _ _ _) rfl (by rw[kW];omega) ak al (fun _=>rfl) rfl rfl rfl fun _=> ?_;refine ae [0,1,5,6,7,8] ?_;refine aF rfl (ab 1 rfl (jy rfl rfl (by omega) (by omega) ⟨by omega,by omega⟩ (ab 1 rfl (aA (aj [0,1,5,6,7,8] rfl ?_)))));refine aF rfl (ab 1 rfl (aO rfl rfl ⟨by omega,by omega⟩ (ab 1 rfl (aA ?_))));refine⟨j+1,o2.set (i+j) ((d*p+e+cr)%B),(d*p+e+cr)/1000000000,by omega,ay,by rw[pP (y:=(d*p+e+cr)%B) (by rw[bG];omega),zz],by omega,by simp[zy],uE.set (Nat.mod_lt _ jT),by omega,kX.set (by omega),fun h=>(xY (by omega)).set (by omega),fun h=> ?_,?_⟩
   ·
    have h1:=getD_none hp (by omega);have h2:=xY (by omega) (i+j) e (by omega) he;subst h1 h2
    omega
   rw[sy,←hp];exact MF he de rfl
 ·
  have hb:(ah x).length≤i:=by simpa using hb
  obtain rfl:i=(ah x).length:=by omega
  rw[List.take_length,ck]at hv;refine bC (aj [5] rfl ?_);refine af (ab 1 rfl (au rfl rfl (vB (uA _ _ o _ _ cI.symm (Nat.le_refl _)) cV (by omega)) ?_));intro v1 H4 hp;refine ab 1 rfl (ae [4] ?_);refine aw ⟨.inr rfl,_,.tmp rfl (.nil),?_⟩;exact⟨(Heap.a0 _ hg).trans hp.le,by have:=hp.nat;rwa [hv]at this⟩
theorem Ym{H:Heap}{u:Value}{l:List Nat}{m:Nat}(hu:fI H u l)(hl:Lt l)(hm:m<1000000000)(zw:0<m)(hs:(l.length:Int)≤8796093022208):
 Fn Tryz.prog 108 #[u,.int .u64 (m:Int)] H (fun v H'=>Heap.le H H'∧∃q,v = .tuple #[q,.int .u64 ((val l%m:Nat):Int)]∧cB H' q (val l/m)):=by
 obtain⟨A,c,rfl,hc,hr⟩:=hu;refine aW (args:=[_,_]) Tryz.func108 rfl rfl Tryz.ntmps108 rfl rfl fun w0=> ?_;refine aj [0,1] rfl ?_;refine af (ab 2 rfl (ae [0,1] ?_));refine af (ab 2 rfl (iF Tryz.underlying27 cW rfl rfl rfl (by omega) (by omega) (by omega) (by omega) ?_));intro g hg;rw[show ((l.length:Int)).toNat=l.length from by omega,sD];have mz:=fun e=>hr.le (Heap.a0 (g:=g) e hg);refine ab 1 rfl (ae [0,1,6] ?_);refine af (ab 1 rfl (ae [0,1,6,7] ?_));refine aq (af (ab 2 rfl (di rfl rfl ⟨by omega,by omega⟩ (ab 1 rfl (ae [0,1,6,7,8] ?_)))));refine aD (jb (fun(k:Nat)(o:List Nat)(rs:Nat)=>k) (fun(k:Nat)(o:List Nat)(rs:Nat)=>put (put (put (put (put (emp) 0 (.val (.slice A l.length c))) 1 (.val (.int .u64 (m:Int)))) 6 (.val (.slice (some ⟨g,0,none⟩) l.length l.length))) 7 (.val (.int .u64 (rs:Int)))) 8 (.val (.int .i64 ((k:Int)-1)))) (fun(k:Nat)(o:List Nat)(rs:Nat) H'=>H'=ins H g (cL o l.length)∧k≤l.length∧o.length=l.length∧Lt o∧rs<m∧val (o.drop k)*m+rs=val (l.drop k)) l.length _ 0 (⟨rfl,by omega,by simp,Lt.replicate _,by omega,by simp[val]⟩) ay ?_);rintro k o rs H1 ⟨rfl,hk,cI,cV,sG,hv⟩;refine aq ?_
 refine af (ab 2 rfl (ae [0,1,6,7,8,16] ?_));refine az rfl (fun hb=> ?_) (fun hb=> ?_)
 ·
  have hb:1≤k:=by simp at hb;omega
  obtain⟨k,rfl⟩:∃j,k=j+1:=⟨k-1,by omega⟩;obtain⟨d,hd⟩:∃d,l[k]? = some d:=⟨_,List.getElem?_eq_getElem (by omega)⟩;have jf:=hl.get hd;rw[bG]at jf
  have hj:(((k+1:Nat):Int)-1).toNat=k:=by omega
  have jg:((rs:Int)*1000000000+(d:Int))/(m:Int)<1000000000:=Int.ediv_lt_of_lt_mul (by omega) (by omega);have bQ:0≤((rs:Int)*1000000000+(d:Int))/(m:Int):=Int.ediv_nonneg (by omega) (by omega);refine ax (aj [0,1,6,7,8] rfl ?_);refine aq (aD (af (ab 1 rfl (gG rfl rfl ⟨by omega,by omega⟩ (ab 2 rfl (a9 ag rfl rfl rfl rfl rfl (mz _) (by rw[hj];exact cH hd) (by omega) (by omega) fun _=> ?_))))));refine cF ag rfl rfl rfl ⟨by omega,by omega⟩ (aO rfl rfl ⟨by omega,by omega⟩ (ab 1 rfl (ae [0,1,6,7,8] ?_)));refine af (ab 4 rfl (jy rfl rfl (by omega) (by omega) ⟨by omega,by omega⟩ (cF ag rfl rfl rfl ⟨by omega,by omega⟩ ?_)));obtain⟨ti,ak,al⟩:=kU;refine dP (.inl rfl) ag rfl rfl rfl (by omega) (by omega) (bx _ _ _) rfl (by rw[kW];omega) ak al (fun _=>rfl) rfl rfl rfl fun _=> ?_;refine ae [0,1,6,7,8] ?_;refine aF rfl (ab 2 rfl (kp rfl rfl (by omega) (by omega) (ab 1 rfl (aA (aj [0,1,6,7,8] rfl ?_)))));refine aF rfl (ab 1 rfl (di rfl rfl ⟨by omega,by omega⟩ (ab 1 rfl (aA ?_))))
  have hq:(rs*1000000000+d)/m<1000000000:=by rw[Nat.div_lt_iff_lt_mul zw];omega
  refine⟨k,o.set k ((rs*1000000000+d)/m),(rs*1000000000+d)%m,by omega,ay,by rw[pP (y:=(rs*1000000000+d)/m) (by simp)];rw[hj],by omega,by simp[cI],cV.set (by rw[bG];omega),Nat.mod_lt _ zw,?_⟩;rw[set_drop (by omega),wO hd,fH,fH,←hv];have:=Nat.div_add_mod (rs*1000000000+d) m
  simp only[bG,Nat.add_mul,Nat.mul_add,Nat.mul_assoc]
  rw[Nat.mul_comm m]at this
  omega
 ·
  have hb:k=0:=by simp at hb;omega
  subst hb
  simp only[List.drop_zero]at hv
  refine bC (aj [6,7] rfl ?_);refine af (ab 1 rfl (au rfl rfl (vB (uA _ _ o _ _ cI.symm (Nat.le_refl _)) cV (by omega)) ?_));intro v1 H4 hp;refine ab 3 rfl (ae [4,5] ?_);refine aw ⟨.inr rfl,_,.tmp rfl (.tmp rfl (.nil)),?_⟩;refine⟨(Heap.a0 _ hg).trans hp.le,v1,?_,?_⟩
  ·rw[(Dm hv sG).2];rfl
  ·rw[(Dm hv sG).1];exact hp.nat
end Go.ar
namespace Go.ar
open Go.Proofs Num
def Yn(H:Heap)(v:Value)(H':Heap):Prop:=H'=H∧∃d:Nat,v = .int .u64 (d:Int)∧d≤999999999
theorem Yo{H:Heap}{u v:Value}{x y:Nat}(hx:cB H u x)(hy:cB H v y)(A7:2≤(ah y).length)(qU:(ah x).length≤(ah y).length+1)(hm:((ah y).length:Int)≤8796093022208):
 Fn Tryz.prog 109 #[u,v] H (Yn H):=by
 obtain⟨A,c,rfl,hc,hr⟩:=hx
 obtain⟨A',c',rfl,gF,cM⟩:=hy
 have fJ:=(dU x).lt
 have eD:=(dU y).lt
 obtain⟨k,hk⟩:∃k,(ah y).length=k+2:=⟨(ah y).length-2,by omega⟩
 have qT:(((ah y).length:Int)-1).toNat=k+1:=by omega
 have uH:(((ah y).length:Int)-2).toNat=k:=by omega
 obtain⟨b1,dZ⟩:∃z,(ah y)[k+1]? = some z:=⟨_,List.getElem?_eq_getElem (by omega)⟩
 obtain⟨b0,gS⟩:∃z,(ah y)[k]? = some z:=⟨_,List.getElem?_eq_getElem (by omega)⟩
 have Yp:=eD.get dZ
 have Yq:=eD.get gS
 have EO:b1≠0:=(dU y).last b1 (by rw[List.getLast?_eq_getElem?,hk];exact dZ)
 rw[bG]at Yp Yq;refine aW (args:=[_,_]) Tryz.func109 rfl rfl Tryz.ntmps109 rfl rfl fun w0=> ?_;refine aj [0,1] rfl ?_;refine af (ab 1 rfl (ae [0,1] ?_));refine af (ab 3 rfl (ae [0,1,5] ?_));refine aq (af (ab 4 rfl (ae [0,1,5,15] ?_)));refine az rfl (fun hb=> ?_) (fun hb=> ?_)
 ·
  skip
  refine af (ab 1 rfl (ae [4] ?_));refine aw ⟨.inr rfl,_,.tmp rfl (.nil),?_⟩;exact⟨rfl,0,rfl,by omega⟩
 ·
  have hb:(ah y).length≤(ah x).length:=by simpa using hb
  obtain⟨r1,ow⟩:∃z,(ah x)[k+1]? = some z:=⟨_,List.getElem?_eq_getElem (by omega)⟩;obtain⟨r0,qG⟩:∃z,(ah x)[k]? = some z:=⟨_,List.getElem?_eq_getElem (by omega)⟩;have EP:=fJ.get ow;have Yr:=fJ.get qG;rw[bG]at EP Yr;have jg:((r1:Int)*1000000000+(r0:Int))/((b1:Int)*1000000000+(b0:Int))<1000000000:=Int.ediv_lt_of_lt_mul (by omega) (by omega);have bQ:0≤((r1:Int)*1000000000+(r0:Int))/((b1:Int)*1000000000+(b0:Int)):=Int.ediv_nonneg (by omega) (by omega);obtain⟨q,hq⟩:∃q:Nat,(q:Int)=((r1:Int)*1000000000+(r0:Int))/((b1:Int)*1000000000+(b0:Int)):=⟨_,Int.toNat_of_nonneg bQ⟩;rw[←hq]at jg;refine ax (aj [0,1,5] rfl ?_);refine cg .bR [0,1,2,3,4,5,6,7,8,9,10,11,12,13,14] follows (by kernel_rfl) ?_;refine ab 2 rfl (di rfl rfl ⟨by omega,by omega⟩ (a9 ag rfl rfl rfl rfl rfl (cM) (by rw[qT];exact cH dZ) (by omega) (by omega) fun _=> ?_));refine cF ag rfl rfl rfl ⟨by omega,by omega⟩ (gG rfl rfl ⟨by omega,by omega⟩ (ab 2 rfl (di rfl rfl ⟨by omega,by omega⟩ (a9 ag rfl rfl rfl rfl rfl (cM) (by rw[uH];exact cH gS) (by omega) (by omega) fun _=> ?_))));refine cF ag rfl rfl rfl ⟨by omega,by omega⟩ (aO rfl rfl ⟨by omega,by omega⟩ (ab 1 rfl (ae [0,5,6] ?_)))
  refine cg .bR [0,1,2,3,4,5,6,7,8,9,10,11,12,13,14] follows (by kernel_rfl) ?_;refine ab 2 rfl (di rfl rfl ⟨by omega,by omega⟩ (a9 ag rfl rfl rfl rfl rfl (hr) (by rw[qT];exact cH ow) (by omega) (by omega) fun _=> ?_));refine cF ag rfl rfl rfl ⟨by omega,by omega⟩ (gG rfl rfl ⟨by omega,by omega⟩ (ab 2 rfl (di rfl rfl ⟨by omega,by omega⟩ (a9 ag rfl rfl rfl rfl rfl (hr) (by rw[uH];exact cH qG) (by omega) (by omega) fun _=> ?_))));refine cF ag rfl rfl rfl ⟨by omega,by omega⟩ (aO rfl rfl ⟨by omega,by omega⟩ (ab 1 rfl (ae [0,5,6,7] ?_)));refine aq (af (ab 4 rfl (ae [0,5,6,7,47] ?_)));refine az rfl (fun hb=> ?_) (fun hb=> ?_)
  ·
   skip
   refine af (ab 2 rfl (jy rfl rfl (by omega) (by omega) ⟨by rw[←hq];omega,by rw[←hq];omega⟩ ?_));rw[←hq];refine ab 1 rfl (ae [4] ?_);refine aw ⟨.inr rfl,_,.tmp rfl (.nil),?_⟩;exact⟨rfl,q,rfl,by omega⟩
  have hb:(ah x).length=(ah y).length+1:=by simp at hb;omega
  obtain⟨rn,OT⟩:∃z,(ah x)[(ah y).length]? = some z:=⟨_,List.getElem?_eq_getElem (by omega)⟩;refine ax (aj [0,5,6,7] rfl ?_);refine af (ab 2 rfl (a9 ag rfl rfl rfl rfl rfl (hr) (cH OT) (by omega) (by omega) fun _=>(GW Tryz.underlying92 Tryz.underlying135 rfl fun f1=>(GX (.inr (.inl rfl)) rfl rfl fun f2=>(ab 1 rfl (GW Tryz.underlying91 Tryz.underlying135 rfl fun f3=>(GX (.inl rfl) rfl rfl fun f4=>(ab 1 rfl (ae [6,8] ?_)))))))));refine af (ab 2 rfl (GW Tryz.underlying91 Tryz.underlying135 rfl fun f5=>(GX (.inr (.inr rfl)) rfl rfl fun f6=>(T7 Tryz.underlying135 Tryz.underlying91 rfl fun f7 hf7=>(ab 1 rfl (ae [9] ?_))))));refine af (ab 1 rfl (Tw (v:=((f7:Int)+2)%18446744073709551616) rfl rfl rfl (Me rfl rfl ?_)))
  generalize Ys:(if (999999999:Int)<((f7:Int)+2)%18446744073709551616 then(999999999:Int)else((f7:Int)+2)%18446744073709551616)=mn
  have ada:0≤mn∧mn≤999999999:=by rw[←Ys];split <;> omega
  obtain⟨q2,rfl⟩:∃q2:Nat,mn=(q2:Int):=⟨mn.toNat,by omega⟩;refine ab 1 rfl (ae [4] ?_);refine aw ⟨.inr rfl,_,.tmp rfl (.nil),?_⟩;exact⟨rfl,q2,rfl,by omega⟩
end Go.ar
