/- Part 5 of the proof: Num3, Bd, TDat, Tab1, TDat2, Tab2, Tab3, TDat3, Tab4. -/
import Derived.Test.YtfjncmjbhfdnpaaGreatA04
set_option linter.unusedVariables false
namespace Go.aw
open Go.Proofs Num Lp
def iq{α:Type}(P:Heap→List Value→α→Prop)(H:Heap)(vs:List Value):Option α→Prop
 | some a=>P H vs a
 | none=>True
theorem iq.up{α:Type}{P:Heap→List Value→α→Prop}(up:Up P):Up (iq P):=fun H H' vs a hl h=>by
 cases a with
 | none=>trivial
 | some a=>exact up H H' vs a hl h
def fill{α:Type}(l:List α)(k:Nat):List (Option α):=(l.take k).map some++List.replicate (l.length-k) none
section
variable {α:Type} {l:List α} {k:Nat}
theorem nC(h:k≤l.length):(fill l k).length=l.length:=by simp[fill];omega
theorem afH:fill l 0=List.replicate l.length none:=by simp[fill]
theorem ze{a:α}(h:l[k]? = some a):(fill l k).set k (some a)=fill l (k+1):=by
 have hk:=(List.getElem?_eq_some_iff.1 h).1
 apply List.ext_getElem?
 intro i
 by_cases e:i=k
 ·subst e
  rw[List.getElem?_set_self (by rw[nC (by omega)];omega)]
  unfold fill
  rw[List.getElem?_append_left (by simp;omega),List.getElem?_map,List.getElem?_take,if_pos (by omega),h];rfl
 ·rw[List.getElem?_set_ne (fun e'=>e e'.symm)]
  unfold fill
  by_cases h1:i<k
  ·rw[List.getElem?_append_left (by simp;omega),List.getElem?_append_left (by simp;omega),List.getElem?_map,List.getElem?_map,List.getElem?_take,List.getElem?_take,if_pos h1,if_pos (by omega)]
  ·rw[List.getElem?_append_right (by simp;omega),List.getElem?_append_right (by simp;omega),List.getElem?_replicate,List.getElem?_replicate]
   simp only[List.length_map,List.length_take]
   by_cases h2:i<l.length
   ·rw[if_pos (by omega),if_pos (by omega)]
   ·rw[if_neg (by omega),if_neg (by omega)]
theorem afI:fill l l.length=l.map some:=by simp[fill]
theorem DZ{P:Heap→List Value→α→Prop}{H:Heap}{sz:Nat}{xs:List Value}(h:bE (iq P H) sz xs (fill l l.length)):bE (P H) sz xs l:=by
 rw[afI]at h
 refine⟨by simpa using h.len,fun i a ha=> ?_⟩
 exact h.at_ i (some a) (by rw[List.getElem?_map,ha];rfl)
end
theorem BE{α:Type}{P:Heap→List Value→α→Prop}{H:Heap}{zs:List Value}{sz:Nat}(hz:zs.length=sz)(l:List α):bE (iq P H) sz (cD zs (l.length*sz)) (fill l 0):=by
 rw[afH]
 exact Pz (P:=iq P H) (a:=none) hz trivial _
theorem jr:Up bS:=bS.up
def bR(N:Nat)(H:Heap)(vs:List Value)(q:Rat):Prop:=ct H (.agg vs.toArray) q N
theorem dz(N:Nat):Up (bR N):=fun _ _ _ _ hl h=>ct.le h hl
def bX(H:Heap)(vs:List Value)(q:Rat):Prop:=bK H (.agg vs.toArray) q
theorem dL:Up bX:=fun _ _ _ _ hl h=>bK.le h hl
theorem zf{vs:List Value}{a b c:Value}(h:Value.agg vs.toArray = .agg #[a,b,c]):vs = [a,b,c]:=by
 simp only[Value.agg.injEq]at h
 have:=congrArg Array.toList h
 simpa using this
theorem bR.cells{N:Nat}{H:Heap}{vs:List Value}{q:Rat}(h:bR N H vs q):∃f A m c A' m' c',vs = [.bool f,.slice A m c,.slice A' m' c']:=by
 obtain⟨f,u,w,l1,l2,h1,⟨A,c,rfl,_,_⟩,⟨A',c',rfl,_,_⟩,_⟩:=h
 exact⟨f,A,_,c,A',_,c',zf h1⟩
theorem bX.rat{H:Heap}{vs:List Value}{q:Rat}{N:Nat}(h:bX H vs q)(hs:aP q≤N):bR N H vs q:=ct.mono (bK.raw h) hs
theorem bS.cells{H:Heap}{vs:List Value}{q:Rat}(h:bS H vs q):∃n d b,vs = [.int .i64 n,.int .i64 d,.pointer b]:=by
 obtain⟨n,d,b,h,_⟩:=h;exact⟨n,d,b,h⟩
theorem afJ(H:Heap)(g:Nat)(xs vs:List Value)(s e k sz:Nat):ins (ins H g ⟨xs,s,e,true⟩) g {(⟨xs,s,e,true⟩:Ent)with xs:=aM xs (0+k*sz) vs}=ins H g ⟨aM xs (k*sz) vs,s,e,true⟩:=by
 rw[qB,Nat.zero_add]
theorem dW{H:Heap}{g:Nat}{xs:List Value}{s e:Nat}{b:Bool}(h:H g=some ⟨xs,s,e,b⟩):Rd H (some ⟨g,0,none⟩) xs:=fun i v hv=>⟨_,rfl,by simp[cell,iX,h,hv]⟩
theorem tO{q:Rat}(h:ik q=0):q=0:=by
 unfold ik at h
 split at h
 ·omega
 ·split at h
  ·assumption
  ·omega
theorem WY:aP 0=1:=by
 unfold aP
 show max (ao 0).length (ao 1).length=1
 rw[qI,vk];rfl
theorem afK{f g:Nat→Rat}{s n:Nat}(hf:∀k,k<n→aP (f k)≤s∧aP (g k)≤s):∀k,k≤n→aP (bB k (fun j=>f j*g j))≤k*(2*s+1)+1:=by
 intro k
 induction k with
 | zero=>intro _;rw[Bq,WY];omega
 | succ k ih=>
  intro hk
  have h1:=ih (by omega)
  have h2:=vp (f k) (g k)
  have h3:=Wo (bB k (fun j=>f j*g j)) (f k*g k)
  have h4:=hf k (by omega)
  rw[fZ,Nat.add_mul]
  omega
theorem WZ{l:List Rat}{s:Nat}(h:∀q,q∈l→aP q≤s){k:Nat}(hk:k<l.length):aP (fn l k)≤s:=by
 rw[mb (List.getElem?_eq_getElem hk)];exact h _ (List.getElem_mem hk)
def afL(H:Heap)(l:List Rat)(v:Value)(H':Heap):Prop:=∃g xs,H g=none∧v = .slice (some ⟨g,0,none⟩) l.length l.length∧H'=ins H g ⟨xs,l.length*3,90,true⟩∧∀K:Heap,bE (bS K) 3 xs l
def PY{α:Type}(P:Heap→List Value→α→Prop)(sz:Nat)(H:Heap)(l:List α)(v:Value)(H':Heap):Prop:=Heap.le H H'∧aR P sz H' v l
theorem afM{H:Heap}{n:Nat}(hn:(n:Int)≤8796093022208):
 Fn Tryz.prog 56 #[.int .i64 (n:Int)] H (afL H (List.replicate n 0)):=by
 refine aZ (args:=[_]) Tryz.func56 rfl rfl Tryz.ntmps56 rfl rfl fun w0=> ?_;refine aj [0] rfl ?_;refine ag (ab 1 rfl (ae [0] ?_));refine ag (ab 1 rfl (gJ Tryz.underlying85 fk rfl rfl rfl (by omega) (by omega) (by omega) (by omega) ?_));intro g hg;rw[show ((n:Int)).toNat=n from by omega]
 have hz:∀K:Heap,bE (iq bS K) 3 (cD [.int .i64 0,.int .i64 0,.pointer none] (n*3)) (fill (List.replicate n (0:Rat)) 0):=fun K=>by have:=BE (P:=bS) (H:=K) (zs:=[.int .i64 0,.int .i64 0,.pointer none]) rfl (List.replicate n (0:Rat));rwa [List.length_replicate]at this
 refine ab 1 rfl (ae [3] ?_);refine aq (ag (ab 3 rfl (ae [3,8,9] ?_)));refine aG (ij (fun(k:Nat)(xs:List Value)=>n-k) (fun(k:Nat)(xs:List Value)=>put (put (put (emp) 3 (.val (.slice (some ⟨g,0,none⟩) n n))) 8 (.val (.int .i64 (n:Int)))) 9 (.val (.int .i64 (k:Int)))) (fun(k:Nat)(xs:List Value) H'=>H'=ins H g ⟨xs,n*3,90,true⟩∧k≤n∧∀K:Heap,bE (iq bS K) 3 xs (fill (List.replicate n (0:Rat)) k)) 0 _ (⟨rfl,Nat.zero_le _,hz⟩) au ?_);rintro k xs H1 ⟨rfl,hk,he⟩;have nD:=nC (l:=List.replicate n (0:Rat)) (k:=k) (by simpa using hk);have cP:=(he H).len;rw[nD,List.length_replicate]at cP;refine ag (ab 1 rfl (ae [3,8,9,10] ?_));refine aq (aD rfl (fun hb=> ?_) (fun hb=> ?_))
 ·
  have hb:k<n:=by simpa using hb
  refine aA (aj [3,8,9] rfl ?_);refine aq (aG (ag (ab 2 rfl (ae [3,4,8,9] ?_))));refine aC rfl (ab 2 rfl (aF rfl rfl (wS) ?_));rintro v1 H1 ⟨e1,rfl⟩;rw[e1];obtain⟨ti,ak,al⟩:=cJ;refine cV (.inl rfl) ah rfl rfl rfl (by omega) (by omega) (bF _ _ _) rfl (by show 0+n*3≤xs.length;omega) ak al (fun _=>rfl) rfl rfl rfl fun _=> ?_;refine az (aj [3,8,9] rfl ?_);refine aC rfl (aH rfl rfl ⟨by omega,by omega⟩ (ab 1 rfl (az ?_)));exact⟨k+1,_,by omega,au,afJ H g xs _ _ _ k 3,by omega,fun K=>by rw[←ze (a:=(0:Rat)) (by rw[List.getElem?_replicate,if_pos hb])];exact(he K).set (by rw[nD,List.length_replicate];exact hb) (wR K (n:=0) (by decide) (by decide)) rfl⟩
 ·
  have hb:n≤k:=by simpa using hb
  obtain rfl:k=n:=by omega
  refine aW (aj [3] rfl ?_);refine ag (ab 2 rfl (ae [2] ?_));refine aE ⟨.inr rfl,_,.tmp rfl (.nil),?_⟩;refine⟨g,xs,hg,by rw[List.length_replicate];rfl,by rw[List.length_replicate],fun K=>DZ (l:=List.replicate k (0:Rat)) (by rw[List.length_replicate];exact he K)⟩
theorem W0{H:Heap}{v:Value}{l:List Rat}{N:Nat}(hv:aR (bR N) 3 H v l)(hN:(N:Int)≤1099511627776)(hl:(l.length:Int)≤1099511627776):
 Fn Tryz.prog 57 #[v] H (PY bS 3 H l):=by
 obtain⟨A,c,ys,rfl,hc,hr,iI⟩:=hv;refine aZ (args:=[_]) Tryz.func57 rfl rfl Tryz.ntmps57 rfl rfl fun w0=> ?_;refine aj [0] rfl ?_;refine ag (ab 1 rfl (ae [0] ?_));refine ag (ab 2 rfl (gJ Tryz.underlying85 fk rfl rfl rfl (by omega) (by omega) (by omega) (by omega) ?_));intro g hg;rw[show ((l.length:Int)).toNat=l.length from by omega];have hz:bE (iq bS (rem (ins H g ⟨cD [.int .i64 0,.int .i64 0,.pointer none] (l.length*3),l.length*3,90,true⟩) [g])) 3 (cD [.int .i64 0,.int .i64 0,.pointer none] (l.length*3)) (fill l 0):=BE (sz:=3) (by rfl) l;refine ab 1 rfl (ae [0,3] ?_);refine aq (ag (ab 3 rfl (ae [3,9,10,11] ?_)));refine aG (ij (fun(k:Nat)(xs:List Value)=>l.length-k) (fun(k:Nat)(xs:List Value)=>put (put (put (put (emp) 3 (.val (.slice (some ⟨g,0,none⟩) l.length l.length))) 9 (.val (.slice A l.length c))) 10 (.val (.int .i64 (l.length:Int)))) 11 (.val (.int .i64 (k:Int)))) (fun(k:Nat)(xs:List Value) H'=>Heap.le H (rem H' [g])∧H' g=some ⟨xs,l.length*3,90,true⟩∧k≤l.length∧bE (iq bS (rem H' [g])) 3 xs (fill l k)) 0 _ (⟨by rw[tA _ hg,tz];exact .refl _,bF _ _ _,Nat.zero_le _,hz⟩) au ?_);rintro k xs H1 ⟨hle,qR,hk,he⟩;have nD:=nC (l:=l) (k:=k) hk;have cP:=he.len
 rw[nD]at cP;have pB:=hle.trans (bt H1 [g]);refine ag (ab 1 rfl (ae [3,9,10,11,12] ?_));refine aq (aD rfl (fun hb=> ?_) (fun hb=> ?_))
 ·
  have hb:k<l.length:=by simpa using hb
  obtain⟨q,jU⟩:∃q,l[k]? = some q:=⟨_,List.getElem?_eq_getElem hb⟩;obtain⟨vs,ig,GS,PZ⟩:=iI.get jU;obtain⟨f,A1,m1,c1,A2,m2,c2,rfl⟩:=GS.cells;have P0:ct (rem H1 [g]) _ q N:=ct.le GS hle;refine aA (aj [3,9,10,11] rfl ?_);refine aq (aG (ag (ab 1 rfl (ck (vs:=[.bool f,.slice A1 m1 c1,.slice A2 m2 c2]) ah rfl rfl rfl rfl (hr.le pB) rfl (by decide) PZ (by omega) (by omega) fun _=>(bn bZ rfl (vr 1 ?_))))));obtain⟨ti,ak,al⟩:=a6;refine aI (.inl ⟨rfl,rfl⟩) rfl rfl rfl ak al rfl rfl rfl (ae [3,4,5,9,10,11] ?_);refine aC rfl (ab 3 rfl (aF rfl rfl (Fn.frame (gs:=[g]) (fun q hq=>by simp only[List.mem_singleton]at hq;subst hq;rw[qR];simp) (PB P0 hN)) ?_));rintro v2 H2 ⟨⟨dT,PC,rfl,bO⟩,oc⟩;obtain⟨n2,d2,b2,rfl,_⟩:=id bO;have eu:=(oc g (List.mem_singleton.2 rfl)).trans qR;obtain⟨ti,ak,al⟩:=cJ;refine cV (.inl rfl) ah rfl rfl rfl (by omega) (by omega) (eu) rfl (by show 0+l.length*3≤xs.length;omega) ak al (fun _=>rfl) rfl rfl rfl fun _=> ?_;refine az (aj [3,9,10,11] rfl ?_);refine aC rfl (aH rfl rfl ⟨by omega,by omega⟩ (ab 1 rfl (az ?_)));refine⟨k+1,aM xs (k*3) [.int .i64 n2,.int .i64 d2,.pointer b2],by omega,au,?_,?_,by omega,?_⟩
  ·rw[cK _ (List.mem_singleton.2 rfl)];exact hle.trans dT
  ·rw[bF,Nat.zero_add];rfl
  ·
   rw[cK _ (List.mem_singleton.2 rfl),←ze jU];exact(he.mono fun vs a=>iq.up jr _ _ vs a dT).set (by rw[nD];exact hb) bO rfl
 ·
  have hb:l.length≤k:=by simpa using hb
  obtain rfl:k=l.length:=by omega
  refine aW (aj [3] rfl ?_);refine ag (ab 2 rfl (ae [2] ?_));refine aE ⟨.inr rfl,_,.tmp rfl (.nil),?_⟩;exact⟨hle.trans (bt _ _),some ⟨g,0,none⟩,l.length,xs,rfl,Nat.le_refl _,dW qR,(DZ he).mono fun vs a=>jr _ _ vs a (bt _ _)⟩
theorem W1{H:Heap}{v:Value}{l:List Rat}(hv:aR bS 3 H v l)(hN:∀q,q∈l→(aP q:Int)≤1099511627776)(hl:(l.length:Int)≤1099511627776):
 Fn Tryz.prog 129 #[v] H (PY bX 3 H l):=by
 obtain⟨A,c,ys,rfl,hc,hr,iI⟩:=hv;refine aZ (args:=[_]) Tryz.func129 rfl rfl Tryz.ntmps129 rfl rfl fun w0=> ?_;refine aj [0] rfl ?_;refine ag (ab 1 rfl (ae [0] ?_));refine ag (ab 2 rfl (gJ Tryz.underlying26 bZ rfl rfl rfl (by omega) (by omega) (by omega) (by omega) ?_));intro g hg;rw[show ((l.length:Int)).toNat=l.length from by omega];have hz:bE (iq bX (rem (ins H g ⟨cD [.bool false,.slice none 0 0,.slice none 0 0] (l.length*3),l.length*3,31,true⟩) [g])) 3 (cD [.bool false,.slice none 0 0,.slice none 0 0] (l.length*3)) (fill l 0):=BE (sz:=3) (by rfl) l;refine ab 1 rfl (ae [0,3] ?_);refine aq (ag (ab 3 rfl (ae [3,9,10,11] ?_)));refine aG (ij (fun(k:Nat)(xs:List Value)=>l.length-k) (fun(k:Nat)(xs:List Value)=>put (put (put (put (emp) 3 (.val (.slice (some ⟨g,0,none⟩) l.length l.length))) 9 (.val (.slice A l.length c))) 10 (.val (.int .i64 (l.length:Int)))) 11 (.val (.int .i64 (k:Int)))) (fun(k:Nat)(xs:List Value) H'=>Heap.le H (rem H' [g])∧H' g=some ⟨xs,l.length*3,31,true⟩∧k≤l.length∧bE (iq bX (rem H' [g])) 3 xs (fill l k)) 0 _ (⟨by rw[tA _ hg,tz];exact .refl _,bF _ _ _,Nat.zero_le _,hz⟩) au ?_);rintro k xs H1 ⟨hle,qR,hk,he⟩;have nD:=nC (l:=l) (k:=k) hk
 have cP:=he.len;rw[nD]at cP;have pB:=hle.trans (bt H1 [g]);refine ag (ab 1 rfl (ae [3,9,10,11,12] ?_));refine aq (aD rfl (fun hb=> ?_) (fun hb=> ?_))
 ·
  have hb:k<l.length:=by simpa using hb
  obtain⟨q,jU⟩:∃q,l[k]? = some q:=⟨_,List.getElem?_eq_getElem hb⟩;obtain⟨vs,ig,GS,PZ⟩:=iI.get jU;obtain⟨n1,d1,b1,rfl⟩:=GS.cells;have P0:=GS.le hle;refine aA (aj [3,9,10,11] rfl ?_);refine aq (aG (ag (ab 1 rfl (ck (vs:=[.int .i64 n1,.int .i64 d1,.pointer b1]) ah rfl rfl rfl rfl (hr.le pB) rfl (by decide) PZ (by omega) (by omega) fun _=>(bn fk rfl (vr 1 ?_))))));obtain⟨ti,ak,al⟩:=cJ;refine aI (.inl ⟨rfl,rfl⟩) rfl rfl rfl ak al rfl rfl rfl (ae [3,4,5,9,10,11] ?_);refine aC rfl (ab 3 rfl (aF rfl rfl (Fn.frame (gs:=[g]) (fun q hq=>by simp only[List.mem_singleton]at hq;subst hq;rw[qR];simp) (Wq P0 (hN q (List.mem_of_getElem? jU)))) ?_));rintro v2 H2 ⟨⟨dT,bO⟩,oc⟩;obtain⟨u2,w2,rfl,fR,l6⟩:=id bO;obtain⟨A2,c2,rfl,nz,mJ⟩:=id fR;obtain⟨A3,c3,rfl,vn,qM⟩:=id l6;have eu:=(oc g (List.mem_singleton.2 rfl)).trans qR;obtain⟨ti,ak,al⟩:=a6;refine cV (.inl rfl) ah rfl rfl rfl (by omega) (by omega) (eu) rfl (by show 0+l.length*3≤xs.length;omega) ak al (fun _=>rfl) rfl rfl rfl fun _=> ?_;refine az (aj [3,9,10,11] rfl ?_);refine aC rfl (aH rfl rfl ⟨by omega,by omega⟩ (ab 1 rfl (az ?_)))
  refine⟨k+1,aM xs (k*3) [.bool (decide (q.num<0)),.slice A2 (ao q.num.natAbs).length c2,.slice A3 (ao q.den).length c3],by omega,au,?_,?_,by omega,?_⟩
  ·rw[cK _ (List.mem_singleton.2 rfl)];exact hle.trans dT
  ·rw[bF,Nat.zero_add];rfl
  ·
   rw[cK _ (List.mem_singleton.2 rfl),←ze jU];exact(he.mono fun vs a=>iq.up dL _ _ vs a dT).set (by rw[nD];exact hb) (show bX _ _ q from bO) rfl
 ·
  have hb:l.length≤k:=by simpa using hb
  obtain rfl:k=l.length:=by omega
  refine aW (aj [3] rfl ?_);refine ag (ab 2 rfl (ae [2] ?_));refine aE ⟨.inr rfl,_,.tmp rfl (.nil),?_⟩;exact⟨hle.trans (bt _ _),some ⟨g,0,none⟩,l.length,xs,rfl,Nat.le_refl _,dW qR,(DZ he).mono fun vs a=>dL _ _ vs a (bt _ _)⟩
end Go.aw
namespace Lp
namespace ar
def r8(T:ar)(j:Nat):Prop:=∃k,k<T.m∧T.B k=j
section
variable {T S:ar}
theorem W2(hT:T.WF)(h:j9 T S){i j:Nat}(hi:i<S.m)(hj:j≤T.n):S.A i j=bB T.m (fun k=>S.A i (T.B k)*T.A k j):=by
 have h1:=(h.oh _).2 (y7 hT j hj) i hi
 rw[h.n,DT T hT.lt j hj]at h1
 grind
theorem afN(hT:T.WF)(h:j9 T S){j:Nat}(hj:j≤T.n):S.c j=T.c j+bB T.m (fun k=>S.c (T.B k)*T.A k j):=by
 have h1:=h.cost _ (y7 hT j hj)
 rw[DU hT j hj]at h1
 unfold cost at h1
 rw[h.n,DT T hT.lt j hj]at h1
 grind
theorem exchange(hT:T.WF)(hS:S.WF)(h:j9 T S){i0:Nat}(hi:i0<S.m)(hn:¬T.r8 (S.B i0)):∃r,r<T.m∧T.A r (S.B i0)≠0∧¬S.r8 (T.B r):=by
 false_or_by_contra
 rename_i hc
 have bL:=hS.lt i0 hi
 have h1:=W2 hT h hi (j:=S.B i0) (by rw[h.n]at bL;omega)
 rw[hS.unit i0 i0 hi hi,if_pos rfl,mP]at h1
 ·grind
 ·intro k hk
  by_cases e:T.A k (S.B i0)=0
  ·rw[e];grind
  ·by_cases hb:S.r8 (T.B k)
   ·obtain⟨i',gi,e'⟩:=hb
    have a7:i0≠i':=fun e0=>hn ⟨k,hk,by rw[e0];exact e'.symm⟩
    rw[←e',hS.unit i' i0 gi hi,if_neg a7];grind
   ·exact absurd ⟨k,hk,e,hb⟩ hc
open Classical in
noncomputable def qS(T S:ar):Nat:=(List.range S.m).countP fun i=>decide (¬T.r8 (S.B i))
theorem afO{r s j:Nat}(h:T.r8 j)(hj:j≠T.B r):(T.pivot r s).r8 j:=by
 obtain⟨k,hk,e⟩:=h
 refine⟨k,hk,?_⟩
 show (if k=r then s else T.B k)=j
 rw[if_neg (fun e'=>hj (by rw[←e,e'])),e]
theorem afP{r i0:Nat}(hr:r<T.m)(hi:i0<S.m)(hn:¬T.r8 (S.B i0))(hb:¬S.r8 (T.B r)):qS (T.pivot r (S.B i0)) S<qS T S:=by
 unfold qS
 refine WA _ _ _ (fun i lZ hd=> ?_) ⟨i0,List.mem_range.2 hi,?_,?_⟩
 ·simp only[decide_eq_true_eq]at hd⊢
  exact fun lC=>hd (afO lC (fun e=>hb ⟨i,List.mem_range.1 lZ,e⟩))
 ·simp only[decide_eq_true_eq];exact hn
 ·simp only[decide_eq_false_iff_not,Classical.not_not]
  exact⟨r,hr,by show (if r=r then S.B i0 else T.B r)=_;rw[if_pos rfl]⟩
def dZ(D X:Nat)(q:Rat):Prop:=∃z:Int,q*(D:Rat)=(z:Rat)∧z.natAbs≤X
def me(n j k z:Nat):Nat:=if j=n then k else z
structure BdD(D0 f e D:Nat)(T:ar):Prop where
 pos:0<D
 le:D≤2^e
 A:∀i,i<T.m→∀j,j≤T.n→dZ (D*me T.n j D0 1) (2^(e+me T.n j f 0)) (T.A i j)
 c:∀j,j≤T.n→dZ (D*me T.n j D0 1) (2^(e+me T.n j f 0)) (T.c j)
def Bd(D0 f e:Nat)(T:ar):Prop:=∃D:Nat,BdD D0 f e D T
theorem D3{n j k z:Nat}(h:j<n):me n j k z=z:=if_neg (by omega)
theorem zh{n k z:Nat}:me n n k z=k:=if_pos rfl
theorem dZ.mono{D X Y:Nat}{q:Rat}(h:dZ D X q)(hl:X≤Y):dZ D Y q:=by
 obtain⟨z,h1,h2⟩:=h
 exact⟨z,h1,Nat.le_trans h2 hl⟩
theorem Bd.mono{D0 f e e':Nat}(h:Bd D0 f e T)(hl:e≤e'):Bd D0 f e' T:=by
 obtain⟨D,h1,h2,h3,h4⟩:=h
 have hp:∀k,2^(e+k)≤2^(e'+k):=fun k=>Nat.pow_le_pow_right (by decide) (by omega)
 exact⟨D,h1,Nat.le_trans h2 (hp 0),fun i hi j hj=>(h3 i hi j hj).mono (hp _),fun j hj=>(h4 j hj).mono (hp _)⟩
theorem natAbs_sub_le(a b:Int):(a-b).natAbs≤a.natAbs+b.natAbs:=by omega
theorem P3{D K:Nat}{N z1 z2 z3:Int}{a b c d:Rat}{X Y:Nat}(hD:(D:Rat)≠0)(hN:(N:Rat)≠0)(h:d*(D:Rat)=(N:Rat))(h1:a*((D*K:Nat):Rat)=(z1:Rat))(h2:b*(D:Rat)=(z2:Rat))(h3:c*((D*K:Nat):Rat)=(z3:Rat))
  (k1:z1.natAbs≤Y) (k2:z2.natAbs≤X) (k3:z3.natAbs≤Y) (k:N.natAbs≤X):dZ (D*N.natAbs*K) (2*(X*Y)) (a-b*(c/d)):=by
 refine⟨N.sign*(z1*N-z2*z3),?_,?_⟩
 ·have e1:((D*N.natAbs*K:Nat):Rat)=(D:Rat)*((N.sign:Rat)*(N:Rat))*(K:Rat):=by
   have ln:(N.natAbs:Int)=N.sign*N:=by
    rcases Int.lt_trichotomy N 0 with h | h | h
    ·rw[Int.sign_eq_neg_one_of_neg h];omega
    ·subst h;rfl
    ·rw[Int.sign_eq_one_of_pos h];omega
   have:((N.natAbs:Int):Rat)=((N.sign*N:Int):Rat):=by rw[ln]
   rw[Rat.natCast_mul,Rat.natCast_mul]
   have h0:((N.natAbs:Nat):Rat)=((N.natAbs:Int):Rat):=rfl
   rw[h0,this,Rat.intCast_mul]
  have hd:d≠0:=fun e=>by rw[e]at h;grind
  rw[Rat.natCast_mul]at h1 h3
  rw[e1,Rat.intCast_mul,Rat.intCast_sub,Rat.intCast_mul,Rat.intCast_mul,←h1,←h2,←h3,←h]
  grind
 ·have hs:N.sign.natAbs≤1:=by
   rw[Int.natAbs_sign];split <;> omega
  rw[Int.natAbs_mul]
  have h4:=natAbs_sub_le (z1*N) (z2*z3)
  rw[Int.natAbs_mul,Int.natAbs_mul]at h4
  have h5:z1.natAbs*N.natAbs≤X*Y:=by rw[Nat.mul_comm];exact Nat.mul_le_mul k k1
  have h6:z2.natAbs*z3.natAbs≤X*Y:=Nat.mul_le_mul k2 k3
  have h7:N.sign.natAbs*(z1*N-z2*z3).natAbs≤1*(z1*N-z2*z3).natAbs:=Nat.mul_le_mul_right _ hs
  omega
theorem P4(e f:Nat):2*(2^e*2^(e+f))=2^(2*e+1+f):=by
 rw[show 2*e+1+f=(e+(e+f))+1 by omega,Nat.pow_succ,Nat.pow_add 2 e (e+f),Nat.mul_comm]
theorem Bd.pivot{D0 f e r s:Nat}(h:Bd D0 f e T)(hr:r<T.m)(hs:s<T.n)(hp:T.A r s≠0):Bd D0 f (2*e+1) (T.pivot r s):=by
 obtain⟨D,h1,h2,h3,h4⟩:=h
 have one:∀{q:Rat},dZ (D*me T.n s D0 1) (2^(e+me T.n s f 0)) q→dZ D (2^e) q:=fun h=>by rwa [D3 hs,D3 hs,Nat.mul_one]at h
 obtain⟨N,hN,Lu⟩:=one (h3 r hr s (by omega))
 have hD:(D:Rat)≠0:=fun e=>by
  have:D=0:=by exact_mod_cast e
  omega
 have D4:(N:Rat)≠0:=by
  rw[←hN]
  intro e0
  rcases Rat.mul_eq_zero.1 e0 with h | h
  ·exact hp h
  ·exact hD h
 have hNz:N≠0:=fun e=>D4 (by rw[e];rfl)
 refine⟨D*N.natAbs,Nat.mul_pos h1 (by omega),?_,fun i hi j hj=> ?_,fun j hj=> ?_⟩
 ·have:=P4 e 0
  rw[Nat.add_zero,Nat.add_zero]at this
  rw[←this]
  have:=Nat.mul_le_mul h2 Lu
  omega
 ·show dZ (D*N.natAbs*me T.n j D0 1) (2^(2*e+1+me T.n j f 0)) _
  rw[←P4]
  obtain⟨z3,k3,l3⟩:=h3 r hr j hj
  show dZ _ _ (if i=r then T.A r j/T.A r s else T.A i j-T.A i s*(T.A r j/T.A r s))
  by_cases e':i=r
  ·rw[if_pos e']
   have e3:(-1:Rat)*(D:Rat)=((-(D:Int):Int):Rat):=by
    rw[Rat.intCast_neg]
    have:((D:Int):Rat)=(D:Rat):=rfl
    rw[this];grind
   have:=P3 (z1:=0) (a:=0) (z2:= -(D:Int)) (b:= -1) hD D4 hN (by grind) e3 k3 (by omega) (by omega) l3 Lu
   have e2:(0:Rat) - -1*(T.A r j/T.A r s)=T.A r j/T.A r s:=by grind
   rwa [e2]at this
  ·rw[if_neg e']
   obtain⟨z1,k1,l1⟩:=h3 i hi j hj
   obtain⟨z2,k2,l2⟩:=one (h3 i hi s (by omega))
   exact P3 hD D4 hN k1 k2 k3 l1 l2 l3 Lu
 ·show dZ (D*N.natAbs*me T.n j D0 1) (2^(2*e+1+me T.n j f 0)) _
  rw[←P4]
  obtain⟨z3,k3,l3⟩:=h3 r hr j hj
  obtain⟨z1,k1,l1⟩:=h4 j hj
  obtain⟨z2,k2,l2⟩:=one (h4 s (by omega))
  exact P3 hD D4 hN k1 k2 k3 l1 l2 l3 Lu
theorem reach{D0 f:Nat}(hS:S.WF):∀(k e:Nat)(T:ar),T.WF→j9 T S→Bd D0 f e T→qS T S≤k→∃T':ar,T'.WF∧j9 T' S∧(∀i,i<S.m→T'.r8 (S.B i))∧Bd D0 f (2^k*(e+1)-1) T':=by
 intro k
 induction k with
 | zero=>
  intro e T hT h hb hc
  refine⟨T,hT,h,fun i hi=> ?_,by rw[Nat.pow_zero,Nat.one_mul];exact hb⟩
  false_or_by_contra
  rename_i hn
  have:0<qS T S:=by
   unfold qS
   exact List.countP_pos_iff.2 ⟨i,List.mem_range.2 hi,by simp only[decide_eq_true_eq];exact hn⟩
  omega
 | succ k ih=>
  intro e T hT h hb hc
  by_cases ha:∀i,i<S.m→T.r8 (S.B i)
  ·refine⟨T,hT,h,ha,hb.mono ?_⟩
   have:1*(e+1)≤2^(k+1)*(e+1):=Nat.mul_le_mul_right _ Nat.one_le_two_pow
   omega
  ·obtain⟨i0,ha⟩:=Classical.not_forall.1 ha
   obtain⟨hi,hn⟩:=Classical.not_imp.1 ha
   obtain⟨r,hr,hp,vc⟩:=exchange hT hS h hi hn
   have bL:=hS.lt i0 hi
   rw[h.n]at bL
   obtain⟨T',h1,h2,h3,h4⟩:=ih (2*e+1) (T.pivot r (S.B i0)) (Br hT hr bL hp) ((j9.pivot hr hp).symm.trans h) (hb.pivot hr bL hp) (by have:=afP hr hi hn vc;omega)
   refine⟨T',h1,h2,h3,?_⟩
   have e2:2^k*(2*e+1+1)=2^(k+1)*(e+1):=by
    rw[Nat.pow_succ,Nat.mul_assoc]
    congr 1
   rwa [e2]at h4
theorem afQ{D0 f e k:Nat}(hT:T.WF)(hS:S.WF)(h:j9 T S)(hb:Bd D0 f e T)(hk:qS T S≤k):Bd D0 f (2^k*(e+1)-1) S:=by
 obtain⟨T',h1,h2,h3,D,hD,hX,hA,hC⟩:=reach hS k e T hT h hb hk
 have lC:∀i,i<S.m→∀k,k<T'.m→∀i',i'<S.m→T'.B k=S.B i→T'.A k (S.B i')=if i'=i then 1 else 0:=by
  intro i hi k hk i' gi e
  obtain⟨k',iT,e'⟩:=h3 i' gi
  rw[←e',h1.unit k' k iT hk]
  by_cases e0:i'=i
  ·rw[if_pos e0,if_pos (h1.inj hk iT (by rw[e,e',e0]))]
  ·rw[if_neg e0,if_neg (fun e1=>e0 (hS.inj gi hi (by rw[←e',←e,e1])))]
 refine⟨D,hD,hX,fun i hi j hj=> ?_,fun j hj=> ?_⟩
 ·obtain⟨k,hk,e⟩:=h3 i hi
  have h4:=W2 hS h2.symm (i:=k) (j:=j) hk hj
  rw[r6 (k:=i) hi _ (fun i' gi a7=>by rw[lC i hi k hk i' gi e,if_neg a7];grind),lC i hi k hk i hi e,if_pos rfl]at h4
  have h5:=hA k hk j (by rw[←h2.n];exact hj)
  rw[h4,←h2.n]at h5
  have e6:1*S.A i j=S.A i j:=by grind
  rwa [e6]at h5
 ·have h4:=afN hS h2.symm (j:=j) hj
  rw[mP]at h4
  ·have h5:=hC j (by rw[←h2.n];exact hj)
   rw[h4,←h2.n]at h5
   have e6:S.c j+0=S.c j:=by grind
   rwa [e6]at h5
  ·intro i hi
   obtain⟨k,hk,e⟩:=h3 i hi
   rw[←e,h1.zero k hk];grind
theorem afR(T S:ar):qS T S≤S.m:=by
 unfold qS
 exact Nat.le_trans List.countP_le_length (by rw[List.length_range];exact Nat.le_refl _)
theorem W3:∀(n:Nat)(l:List Nat),l.Nodup→(∀x,x∈l→x<n)→l.length≤n
 | 0,l,_,h=>by
  cases l with
  | nil=>exact Nat.le_refl _
  | cons x l=>exact absurd (h x (List.mem_cons_self ..)) (Nat.not_lt_zero _)
 | n+1,l,hd,h=>by
  have h1:=W3 n (l.erase n) (hd.erase n) fun x hx=>by
   have h2:=(hd.mem_erase_iff).1 hx
   have:=h x h2.2
   have:=h2.1
   omega
  have h2:l.length≤(l.erase n).length+1:=by
   rw[List.length_erase];split <;> omega
  omega
theorem P5{f:Nat→Nat}:∀{l:List Nat},l.Nodup→(∀x,x∈l→∀y,y∈l→f x=f y→x=y)→(l.map f).Nodup
 | [],_,_=>List.nodup_nil
 | x::l,h,hi=>by
  rw[List.nodup_cons]at h
  rw[List.map_cons,List.nodup_cons]
  refine⟨fun hm=> ?_,P5 h.2 fun y hy z hz=>hi y (List.mem_cons_of_mem _ hy) z (List.mem_cons_of_mem _ hz)⟩
  obtain⟨y,hy,e⟩:=List.mem_map.1 hm
  have:=hi y (List.mem_cons_of_mem _ hy) x (List.mem_cons_self ..) e
  exact h.1 (this▸hy)
open Classical in
theorem afS(hT:T.WF)(hS:S.WF)(h:j9 T S):qS T S+T.m≤T.n:=by
 unfold qS
 rw[List.countP_eq_length_filter]
 generalize hl:(List.range S.m).filter (fun i=>decide (¬T.r8 (S.B i)))=l
 have zi:∀i,i∈l→i<S.m∧¬T.r8 (S.B i):=fun i hi=>by
  rw[←hl,List.mem_filter]at hi
  exact⟨List.mem_range.1 hi.1,of_decide_eq_true hi.2⟩
 have P6:l.Nodup:=by rw[←hl];exact List.Pairwise.filter _ List.nodup_range
 have h1:=W3 T.n (l.map S.B++(List.range T.m).map T.B) ?_ ?_
 ·rwa [List.length_append,List.length_map,List.length_map,List.length_range]at h1
 ·rw[List.nodup_append]
  refine⟨P5 P6 fun x hx y hy e=>hS.inj (zi x hx).1 (zi y hy).1 e,P5 List.nodup_range fun x hx y hy e=>hT.inj (List.mem_range.1 hx) (List.mem_range.1 hy) e,fun a ha b hb e=> ?_⟩
  obtain⟨i,hi,rfl⟩:=List.mem_map.1 ha
  obtain⟨k,hk,rfl⟩:=List.mem_map.1 hb
  exact(zi i hi).2 ⟨k,List.mem_range.1 hk,e.symm⟩
 ·intro x hx
  rcases List.mem_append.1 hx with hx | hx
  ·obtain⟨i,hi,rfl⟩:=List.mem_map.1 hx
   have:=hS.lt i (zi i hi).1
   rw[←h.n];exact this
  ·obtain⟨i,hi,rfl⟩:=List.mem_map.1 hx
   exact hT.lt i (List.mem_range.1 hi)
theorem afT{D X:Nat}{q:Rat}(hD:0<D)(h:dZ D X q):q.num.natAbs≤X∧q.den≤D:=by
 obtain⟨z,h1,h2⟩:=h
 have hD':(D:Rat)≠0:=fun e=>by
  have:D=0:=by exact_mod_cast e
  omega
 have e:mkRat z D=q:=by
  rw[Rat.mkRat_eq_div]
  grind
 obtain⟨k,hk,h3,h4⟩:=Rat.mkRat_num_den (n:=z) (d:=D) (by omega) (n':=q.num) (d':=q.den) (z':=q.den_nz) (c:=q.reduced) e
 refine⟨?_,?_⟩
 ·rw[h3,Int.natAbs_mul,Int.natAbs_natCast]at h2
  exact Nat.le_trans (Nat.le_mul_of_pos_right _ (by omega)) h2
 ·rw[h4]
  exact Nat.le_mul_of_pos_right _ (by omega)
def wt(q:Rat):Nat:=q.num.natAbs.log2+q.den.log2+2
theorem afU(q:Rat):q.num.natAbs≤2^wt q:=by
 have h1:=Nat.lt_log2_self (n:=q.num.natAbs)
 have h2:=Nat.pow_le_pow_right (n:=2) (by decide) (show q.num.natAbs.log2+1≤wt q by unfold wt;omega)
 omega
theorem afV(q:Rat):q.den≤2^wt q:=by
 have h1:=Nat.lt_log2_self (n:=q.den)
 have h2:=Nat.pow_le_pow_right (n:=2) (by decide) (show q.den.log2+1≤wt q by unfold wt;omega)
 omega
def dA:List Rat→Nat
 | []=>0
 | q::l=>wt q+dA l
def fS:List Rat→Nat
 | []=>1
 | q::l=>q.den*fS l
theorem GV(l:List Rat):0<fS l:=by
 induction l with
 | nil=>exact Nat.one_pos
 | cons q l ih=>exact Nat.mul_pos (Nat.pos_of_ne_zero q.den_nz) ih
theorem BF(l:List Rat):fS l≤2^dA l:=by
 induction l with
 | nil=>exact Nat.le_refl _
 | cons q l ih=>
  simp only[fS,dA,Nat.pow_add]
  exact Nat.mul_le_mul (afV q) ih
theorem afW{l:List Rat}{q:Rat}(h:q∈l):∃k,fS l=q.den*k:=by
 induction l with
 | nil=>cases h
 | cons r l ih=>
  rcases List.mem_cons.1 h with rfl | h
  ·exact⟨_,rfl⟩
  ·obtain⟨k,hk⟩:=ih h
   exact⟨r.den*k,by simp only[fS,hk];rw[Nat.mul_left_comm]⟩
theorem afX{l:List Rat}{q:Rat}(h:q∈l):wt q≤dA l:=by
 induction l with
 | nil=>cases h
 | cons r l ih=>
  simp only[dA]
  rcases List.mem_cons.1 h with rfl | h
  ·omega
  ·have:=ih h;omega
theorem Lv{l:List Rat}{q:Rat}(h:q∈l):dZ (fS l) (2^(2*dA l)) q:=by
 obtain⟨k,hk⟩:=afW h
 refine⟨q.num*k,?_,?_⟩
 ·rw[hk,Rat.natCast_mul,Rat.intCast_mul]
  have h1:q*(q.den:Rat)=(q.num:Rat):=by
   have hd:(q.den:Rat)≠0:=fun e=>q.den_nz (by exact_mod_cast e)
   have e:=Rat.mkRat_self q
   rw[Rat.mkRat_eq_div]at e
   grind
  have h2:((k:Int):Rat)=(k:Rat):=rfl
  rw[h2,←h1];grind
 ·rw[Int.natAbs_mul,Int.natAbs_natCast]
  have h1:=afU q
  have h2:=Nat.pow_le_pow_right (n:=2) (by decide) (afX h)
  have h3:k≤fS l:=by
   rw[hk];exact Nat.le_mul_of_pos_left _ (Nat.pos_of_ne_zero q.den_nz)
  have h4:=BF l
  rw[Nat.two_mul,Nat.pow_add]
  exact Nat.mul_le_mul (Nat.le_trans h1 h2) (Nat.le_trans h3 h4)
theorem W4(l:List Rat)(z:Int)(hz:z.natAbs≤1):dZ (fS l) (2^(2*dA l)) (z:Rat):=by
 refine⟨z*fS l,?_,?_⟩
 ·rw[Rat.intCast_mul];rfl
 ·rw[Int.natAbs_mul,Int.natAbs_natCast]
  have h1:z.natAbs*fS l≤1*fS l:=Nat.mul_le_mul_right _ hz
  have h2:=BF l
  have h3:=Nat.pow_le_pow_right (n:=2) (by decide) (show dA l≤2*dA l by omega)
  omega
theorem dZ.neg{D X:Nat}{q:Rat}(h:dZ D X q):dZ D X (-q):=by
 obtain⟨z,h1,h2⟩:=h
 exact⟨-z,by rw[Rat.intCast_neg,←h1];grind,by omega⟩
theorem dZ.sub{D X Y:Nat}{q r:Rat}(h:dZ D X q)(k:dZ D Y r):dZ D (X+Y) (q-r):=by
 obtain⟨z,h1,h2⟩:=h
 obtain⟨y,k1,k2⟩:=k
 exact⟨z-y,by rw[Rat.intCast_sub,←h1,←k1];grind,by omega⟩
theorem BG(D X:Nat):dZ D X 0:=⟨0,by grind,by simp⟩
theorem afY{D X:Nat}(m:Nat)(f:Nat→Rat)(h:∀i,i<m→dZ D X (f i)):dZ D (m*X) (bB m f):=by
 induction m with
 | zero=>rw[Bq];exact BG _ _
 | succ m ih=>
  rw[fZ,Nat.succ_mul]
  obtain⟨z,h1,h2⟩:=ih (fun i hi=>h i (by omega))
  obtain⟨y,k1,k2⟩:=h m (by omega)
  exact⟨z+y,by rw[Rat.intCast_add,←h1,←k1];grind,by omega⟩
end
end ar
end Lp
namespace Go.aw
open Go.Proofs Num Lp
def aL(f:Nat→Rat)(n:Nat):List Rat:=(List.range n).map f
theorem bh(f:Nat→Rat)(n:Nat):(aL f n).length=n:=by simp[aL]
theorem dM{f:Nat→Rat}{n j:Nat}(h:j<n):(aL f n)[j]? = some (f j):=by simp[aL,h]
theorem lI{f g:Nat→Rat}{n:Nat}(h:∀j,j<n→f j=g j):aL f n=aL g n:=by
 apply List.ext_getElem?
 intro j
 by_cases hj:j<n
 ·rw[dM hj,dM hj,h j hj]
 ·rw[List.getElem?_eq_none (by rw[bh];omega),List.getElem?_eq_none (by rw[bh];omega)]
theorem D5{f:Nat→Rat}{n j:Nat}(h:j<n):fn (aL f n) j=f j:=mb (dM h)
def mf(f g:Nat→Rat)(k:Nat)(j:Nat):Rat:=if j<k then f j else g j
theorem afZ{f g:Nat→Rat}{n k:Nat}:(aL (mf f g k) n).set k (f k)=aL (mf f g (k+1)) n:=by
 apply List.ext_getElem?
 intro j
 by_cases hj:j<n
 ·by_cases e:j=k
  ·subst e
   rw[List.getElem?_set_self (by rw[bh];exact hj),dM hj]
   simp[mf]
  ·rw[List.getElem?_set_ne (fun e'=>e e'.symm),dM hj,dM hj]
   unfold mf
   by_cases h:j<k
   ·rw[if_pos h,if_pos (by omega)]
   ·rw[if_neg h,if_neg (by omega)]
 ·rw[List.getElem?_eq_none (by rw[List.length_set,bh];omega),List.getElem?_eq_none (by rw[bh];omega)]
theorem W5{f g:Nat→Rat}{n k:Nat}(h:f k=g k):aL (mf f g k) n=aL (mf f g (k+1)) n:=lI fun j _=>by
 unfold mf
 by_cases e:j=k
 ·subst e;rw[if_neg (by omega),if_pos (by omega),h]
 ·by_cases h':j<k
  ·rw[if_pos h',if_pos (by omega)]
  ·rw[if_neg h',if_neg (by omega)]
theorem W6{f g:Nat→Rat}{n:Nat}:aL (mf f g 0) n=aL g n:=lI fun j _=>by simp[mf]
theorem W7{f g:Nat→Rat}{n:Nat}:aL (mf f g n) n=aL f n:=lI fun j hj=>by simp[mf,hj]
def lJ(K:Heap)(H:Heap)(g:Nat)(l:List Rat):Prop:=∃xs sz,H g=some ⟨xs,sz,90,true⟩∧bE (bS K) 3 xs l
theorem lJ.le{K K' H H':Heap}{g:Nat}{l:List Rat}(h:lJ K H g l)(hl:Heap.le K K')(hs:H' g=H g):lJ K' H' g l:=by
 obtain⟨xs,sz,h1,h2⟩:=h
 exact⟨xs,sz,by rw[hs];exact h1,h2.mono fun vs a=>jr _ _ vs a hl⟩
theorem lJ.rd{K H:Heap}{g:Nat}{l:List Rat}(h:lJ K H g l){i:Nat}{q:Rat}(hq:l[i]? = some q):∃xs n d b,Rd H (some ⟨g,0,none⟩) xs∧bS K [.int .i64 n,.int .i64 d,.pointer b] q∧∀(j:Nat)(v:Value),[.int .i64 n,.int .i64 d,.pointer b][j]? = some v→xs[i*3+j]? = some v:=by
 obtain⟨xs,sz,h1,h2⟩:=h
 obtain⟨vs,_,h3,h4⟩:=h2.get hq
 obtain⟨n,d,b,rfl⟩:=h3.cells
 exact⟨xs,n,d,b,dW h1,h3,h4⟩
structure Kept(gs:List Nat)(H H':Heap):Prop where
 le:Heap.le (rem H gs) (rem H' gs)
 same:∀q,q∈gs→H' q=H q
structure fT(gs:List Nat)(g:Nat)(H H':Heap):Prop where
 le:Heap.le (rem H gs) (rem H' gs)
 same:∀q,q∈gs→q≠g→H' q=H q
theorem Kept.refl(gs:List Nat)(H:Heap):Kept gs H H:=⟨.refl _,fun _ _=>rfl⟩
theorem Kept.trans{gs:List Nat}{A B C:Heap}(h:Kept gs A B)(k:Kept gs B C):Kept gs A C:=⟨h.le.trans k.le,fun q hq=>(k.same q hq).trans (h.same q hq)⟩
theorem fT.trans{gs:List Nat}{g:Nat}{A B C:Heap}(h:fT gs g A B)(k:fT gs g B C):fT gs g A C:=⟨h.le.trans k.le,fun q hq a7=>(k.same q hq a7).trans (h.same q hq a7)⟩
theorem Kept.iO{gs:List Nat}{H H':Heap}(h:Kept gs H H')(g:Nat):fT gs g H H':=⟨h.le,fun q hq _=>h.same q hq⟩
theorem fT.ins{gs:List Nat}{g:Nat}{H H':Heap}(h:fT gs g H H')(hg:g∈gs)(e:Ent):fT gs g H (ins H' g e):=
 ⟨by rw[cK _ hg];exact h.le,fun q hq a7=>by rw[bg _ _ a7];exact h.same q hq a7⟩
theorem Kept.of{gs:List Nat}{H H':Heap}{v:Value}{bG:Value→Heap→Prop}(h:y5 gs bG H v H')(hl:∀v K,bG v K→Heap.le (rem H gs) K):Kept gs H H':=⟨hl _ _ h.post,h.same⟩
theorem Kept.ne{gs:List Nat}{H H':Heap}(h:Kept gs H H')(hn:∀q,q∈gs→H q≠none):∀q,q∈gs→H' q≠none:=fun q hq=>by rw[h.same q hq];exact hn q hq
structure W8(gs:List Nat)(H:Heap)(q:Rat)(v:Value)(H':Heap):Prop where
 kept:Kept gs H H'
 le:Heap.le H H'
 val:∃n d b,v=N3 n d b∧bS (rem H' gs) [.int .i64 n,.int .i64 d,.pointer b] q
structure FrI(gs:List Nat)(H:Heap)(x:Value)(v:Value)(H':Heap):Prop where
 kept:Kept gs H H'
 le:Heap.le H H'
 val:v=x
theorem Fn.lK{P:Program}{f:FuncId}{args:Array Value}{H:Heap}{gs:List Nat}{q:Rat}(jT:∀g,g∈gs→H g≠none)(h:Fn P f args (rem H gs) (tB (rem H gs) q)):Fn P f args H (W8 gs H q):=
 (Fn.frame jT h).mono fun v H' hf=>by
  refine⟨.of hf fun v K hp=>hp.1,hf.le fun v K hp=>hp.1,?_⟩
  obtain⟨_,vs,rfl,hn⟩:=hf.post
  obtain⟨n,d,b,rfl⟩:=hn.cells
  exact⟨n,d,b,rfl,hn⟩
theorem Fn.mg{P:Program}{f:FuncId}{args:Array Value}{H:Heap}{gs:List Nat}{x:Value}(jT:∀g,g∈gs→H g≠none)(h:Fn P f args (rem H gs) (fun v H'=>Heap.le (rem H gs) H'∧v=x)):Fn P f args H (FrI gs H x):=
 (Fn.frame jT h).mono fun v H' hf=>⟨.of hf fun v K hp=>hp.1,hf.le fun v K hp=>hp.1,hf.post.2⟩
theorem lJ.set{K H:Heap}{g:Nat}{f b:Nat→Rat}{n k:Nat}{xs:List Value}{sz:Nat}(h2:bE (bS K) 3 xs (aL (mf f b k) n))(hk:k<n){vs:List Value}(hv:bS K vs (f k))(e:H g=some ⟨aM xs (k*3) vs,sz,90,true⟩):lJ K H g (aL (mf f b (k+1)) n):=by
 refine⟨_,_,e,?_⟩
 rw[←afZ]
 exact h2.set (by rw[bh];exact hk) hv hv.len
end Go.aw
namespace Go.aw
open Go.Proofs Num Lp
theorem Xa{H:Heap}{gs:List Nat}{g gl gr:Nat}{ts:List Value}{Ar:Option Addr}{m cr:Nat}{qT:List Value}{row n c1 cl N:Nat}{a b:Nat→Rat}{fs:List Value}{f:Rat}
 (a7:∀q,q∈gs→H q≠none) (hg:g∈gs) (wY:gl∈gs) (D8:gr∈gs) (zi:gl≠gr) (zj:g≠gl) (ht:H g=some ⟨ts,9,97,true⟩) (zk:ts[6]? = some (.slice Ar m cr)) (mG:Rd (rem H gs) Ar qT) (amr:row<m) (jo:qT[row]? = some (.slice (some ⟨gr,0,none⟩) n c1))
 (vc:lJ (rem H gs) H gr (aL a n)) (kL:lJ (rem H gs) H gl (aL b n)) (hf:bS (rem H gs) fs f) (hN:(N:Int)≤549755813888) (hn:(n:Int)≤1099511627776) (sf:aP f≤N) (sa:∀j,j<n→aP (a j)≤N) (sb:∀j,j<n→aP (b j)≤N):
 Fn Tryz.prog 125 #[.pointer (some ⟨g,0,none⟩),.slice (some ⟨gl,0,none⟩) n cl,.int .i64 (row:Int),.agg fs.toArray] H (fun _ H'=>fT gs gl H H'∧lJ (rem H' gs) H' gl (aL (fun j=>b j-f*a j) n)):=by
 obtain⟨nf,df,bf,rfl⟩:=hf.cells;refine aZ (args:=[_,_,_,_]) Tryz.func125 rfl rfl Tryz.ntmps125 rfl rfl fun w0=> ?_;refine aj [0,1,2,3] rfl ?_;refine ag (bW rfl rfl (ae [0,1,2,7] ?_));refine aq (ag (ab 1 rfl (aF rfl rfl (Fn.mg a7 (tK hf (by omega))) ?_)));rintro v1 H1 ⟨gI,cH,rfl⟩;refine ab 1 rfl (ae [0,1,2,7,12] ?_);refine aD rfl (fun hb=> ?_) (fun hb=> ?_)
 ·
  have hb:f=0:=tO (by simpa using hb);refine aE ⟨.inr rfl,_,.nil,?_⟩;exact⟨gI.iO gl,by rw[lI (g:=b) (fun j _=>by rw[hb];grind)];exact kL.le gI.le (gI.same gl wY)⟩
 ·
  skip
  refine aA (aj [0,1,2,7] rfl ?_);refine ag (ab 2 rfl (aV ah rfl rfl rfl (aT ah rfl rfl rfl (by rw[show cell H1 ((⟨g,0,none⟩:Addr).add 6)=ts[6]? by simp[cell,iX,gI.same g hg,ht]];exact zk) ?_)));refine ab 1 rfl (aS ah rfl rfl rfl rfl rfl ((mG.le gI.le).le (bt _ _)) (by rw[Int.toNat_natCast];exact jo) (by omega) (by omega) fun _=> ?_);refine ab 2 rfl (ae [1,7,19,20,21] ?_);have P7:=vc.le gI.le (gI.same gr D8);have af0:=kL.le gI.le (gI.same gl wY);have jg:=hf.le gI.le;have af1:=gI.ne a7;clear vc kL hf a7 ht mG;refine aG (gK (fun(k:Nat)=>n-k) (fun(k:Nat)=>put (put (put (put (put (emp) 1 (.val (.slice (some ⟨gl,0,none⟩) n cl))) 7 (.box [.int .i64 nf,.int .i64 df,.pointer bf])) 19 (.val (.slice (some ⟨gr,0,none⟩) n c1))) 20 (.val (.int .i64 (n:Int)))) 21 (.val (.int .i64 (k:Int)))) (fun(k:Nat) H'=>fT gs gl H1 H'∧lJ (rem H' gs) H' gl (aL (mf (fun j=>b j-f*a j) b k) n)∧k≤n) 0 (⟨(Kept.refl _ _).iO _,by rw[W6];exact af0,Nat.zero_le _⟩) au ?_);rintro k H2 ⟨fj,bU,fO⟩;have af2:=P7.le fj.le (fj.same gr D8 (Ne.symm zi));have j0:=jg.le fj.le
  have wZ:∀q,q∈gs→H2 q≠none:=fun q hq=>by
   by_cases e:q=gl
   ·
    obtain⟨xs,sz,h,_⟩:=bU;rw[e,h];simp
   ·rw[fj.same q hq e];exact af1 q hq
  refine ag (ab 1 rfl (ae [1,7,19,20,21,22] ?_));refine aq (aD rfl (fun hb=> ?_) (fun hb=> ?_))
  ·
   have gn:k<n:=by simpa using hb
   obtain⟨xr,na,da,ba,nE,zl,hxr⟩:=af2.rd (dM gn);obtain⟨xl,nl,dl,bl,nF,zm,cP⟩:=bU.rd (dM gn);rw[show mf (fun j=>b j-f*a j) b k k=b k by simp[mf]]at zm;have P8:=sa k gn;have Xb:=sb k gn;refine aA (aj [1,7,19,20,21] rfl ?_);refine aq (aG (ag (ab 1 rfl (ck (vs:=[.int .i64 na,.int .i64 da,.pointer ba]) ah rfl rfl rfl rfl nE rfl (by decide) hxr (by omega) (by omega) fun _=>(bn fk rfl (vr 1 ?_))))));obtain⟨ti,ak,al⟩:=cJ;refine aI (.inl ⟨rfl,rfl⟩) rfl rfl rfl ak al rfl rfl rfl (ae [1,7,8,9,19,20,21] ?_);refine ag (ab 1 rfl (aF rfl rfl (Fn.mg wZ (tK zl (by omega))) ?_));rintro v3 H3 ⟨dy,gN,rfl⟩;have Lw:=dy.ne wZ;have yE:=j0.le dy.le;have af3:=zl.le dy.le;have af4:=zm.le dy.le;refine ab 1 rfl (ae [1,7,8,9,19,20,21,28] ?_);refine aD rfl (fun hb=> ?_) (fun hb=> ?_)
   ·
    skip
    refine ep .gH [0,1,2,3,4,5,6,7,8,9,10,11] follows (by kernel_rfl) ?_;refine ab 4 rfl (ck (vs:=[.int .i64 nl,.int .i64 dl,.pointer bl]) ah rfl rfl rfl rfl (nF.le gN) rfl (by decide) cP (by omega) (by omega) fun _=>(ab 2 rfl (a8 rfl rfl (Fn.lK Lw (GR (N:=N) yE af3 sf P8 (by omega))) (fun _ _ h=>by first | exact h.le | exact h.1) ?_)));rintro v4 H4 ⟨gp,dV,n4,d4,b4,rfl,cI⟩;have af5:=gp.ne Lw;have wk:=vp f (a k);refine a8 rfl rfl (Fn.lK af5 (DY (N:=2*N) (af4.le gp.le) cI (by omega) (by omega) (by omega))) (fun _ _ h=>by first | exact h.le | exact h.1) ?_;rintro v5 H5 ⟨mR,gq,n5,d5,b5,rfl,eW⟩;obtain⟨GW,sz6,oj,GX⟩:=(bU.le (dy.le.trans gp.le) ((gp.same gl wY).trans (dy.same gl wY))).le mR.le (mR.same gl wY);have P9:=GX.len;rw[bh]at P9;obtain⟨ti,ak,al⟩:=cJ;refine cV (.inr rfl) ah rfl rfl rfl (by omega) (by omega) (oj) rfl (by show 0+n*3≤GW.length;omega) ak al (fun _=>rfl) rfl rfl rfl fun _=> ?_;refine az (aj [1,7,19,20,21] rfl ?_);refine aC rfl (aH rfl rfl ⟨by omega,by omega⟩ (ab 1 rfl (az ?_)));exact⟨k+1,by omega,au,(((fj.trans (dy.iO gl)).trans (gp.iO gl)).trans (mR.iO gl)).ins wY _,by rw[cK _ wY];exact lJ.set GX gn eW (by rw[bF,Nat.zero_add];rfl),by omega⟩
   have hz:a k=0:=tO (by simpa using hb);refine aA (aj [1,7,19,20,21] rfl ?_);refine aC rfl (aH rfl rfl ⟨by omega,by omega⟩ (ab 1 rfl (az ?_)));exact⟨k+1,by omega,au,fj.trans (dy.iO gl),by rw[←W5 (show (fun j=>b j-f*a j) k=b k by show b k-f*a k=b k;rw[hz];grind)];exact bU.le dy.le (dy.same gl wY),by omega⟩
  have hb:n≤k:=by simpa using hb
  obtain rfl:k=n:=by omega
  refine aW ?_;refine⟨.inl rfl,_,.nil,?_⟩;exact⟨(gI.iO gl).trans fj,by rw[←W7 (g:=b)];exact bU⟩
end Go.aw
namespace Go.aw
open Go.Proofs Num Lp
def BH(_:Heap)(vs:List Value)(z:Int):Prop:=vs = [.int .i64 z]
def vw(_:Heap)(vs:List Value)(k:Nat):Prop:=vs = [.int .i64 (k:Int)]
theorem vx:Up BH:=fun _ _ _ _ _ h=>h
theorem mS:Up vw:=fun _ _ _ _ _ h=>h
structure TL where
 w:Nat
 u:Nat
 plus:List Nat
 minus:List Int
 ku:List Nat
 ke:List Rat
structure TG where
 g:Nat
 cr:Nat
 Ar:Option Addr
 pv:Value
 mv:Value
 uv:Value
 sv:Value
 cv:Value
 bv:Value
 rg:List (Nat×Nat)
 cb:List Nat
 bb:List Nat
def TG.gs(G:TG):List Nat:=G.g::(G.cb++(G.bb++G.rg.map (·.1)))
def TG.cells(G:TG)(w u m:Nat):List Value:=[.int .i64 (w:Int),.int .i64 (u:Int),G.pv,G.mv,G.uv,G.sv,.slice G.Ar m G.cr,G.cv,G.bv]
def eL(B:Nat→Nat)(m:Nat):List Value:=(List.range m).map fun i=> .int .i64 (B i:Int)
theorem gO{B:Nat→Nat}{m i:Nat}(h:i<m):(eL B m)[i]? = some (.int .i64 (B i:Int)):=by simp[eL,h]
theorem BI(B:Nat→Nat)(m:Nat):(eL B m).length=m:=by simp[eL]
theorem Xc{B C:Nat→Nat}{m:Nat}(h:∀i,i<m→B i=C i):eL B m=eL C m:=by
 unfold eL
 apply List.map_congr_left
 intro i hi
 rw[h i (List.mem_range.1 hi)]
structure dG(H:Heap)(G:TG)(L:TL)(T:ar):Prop where
 n:T.n=L.w
 uw:L.u≤L.w
 st:H G.g=some ⟨G.cells L.w L.u T.m,9,97,true⟩
 nd:G.gs.Nodup
 iH:G.rg.length=T.m
 rows:∃xs,Rd (rem H G.gs) G.Ar xs∧∀(i:Nat)(p:Nat×Nat),G.rg[i]? = some p→xs[i]? = some (.slice (some ⟨p.1,0,none⟩) (L.w+1) p.2)
 row:∀(i:Nat)(p:Nat×Nat),G.rg[i]? = some p→lJ (rem H G.gs) H p.1 (aL (T.A i) (L.w+1))
 basis:(T.m=0∧G.bb = []∧G.bv = .slice none 0 0)∨∃gb cb sz,G.bb = [gb]∧G.bv = .slice (some ⟨gb,0,none⟩) T.m cb∧H gb=some ⟨eL T.B T.m,sz,3,true⟩
 plus:aR vw 1 (rem H G.gs) G.pv L.plus
 minus:aR BH 1 (rem H G.gs) G.mv L.minus
 ku:aR vw 1 (rem H G.gs) G.uv L.ku
 ke:aR bS 3 (rem H G.gs) G.sv L.ke
 cb:∀q,q∈G.cb→H q≠none
def iZ(H:Heap)(G:TG)(L:TL)(T:ar):Prop:=∃gc cc,G.cb = [gc]∧G.cv = .slice (some ⟨gc,0,none⟩) (L.w+1) cc∧lJ (rem H G.gs) H gc (aL T.c (L.w+1))
section
variable {H H':Heap} {G:TG} {L:TL} {T:ar}
theorem TG.se(G:TG):G.g∈G.gs:=List.mem_cons_self ..
theorem TG.zo{G:TG}{q:Nat}(h:q∈G.cb):q∈G.gs:=List.mem_cons_of_mem _ (List.mem_append_left _ h)
theorem TG.mT{G:TG}{q:Nat}(h:q∈G.bb):q∈G.gs:=List.mem_cons_of_mem _ (List.mem_append_right _ (List.mem_append_left _ h))
theorem TG.gP{G:TG}{i:Nat}{p:Nat×Nat}(h:G.rg[i]? = some p):p.1∈G.gs:=List.mem_cons_of_mem _ (List.mem_append_right _ (List.mem_append_right _ (List.mem_map.2 ⟨p,List.mem_of_getElem? h,rfl⟩)))
theorem dG.ne(h:dG H G L T):∀q,q∈G.gs→H q≠none:=fun q hq=>by
 rcases List.mem_cons.1 hq with rfl | hq
 ·rw[h.st];simp
 ·rcases List.mem_append.1 hq with hq | hq
  ·exact h.cb q hq
  ·rcases List.mem_append.1 hq with hq | hq
   ·rcases h.basis with ⟨_,h1,_⟩ | ⟨gb,cb,sz,h1,_,h2⟩
    ·rw[h1]at hq;cases hq
    ·rw[h1,List.mem_singleton]at hq
     rw[hq,h2];simp
   ·obtain⟨p,hp,rfl⟩:=List.mem_map.1 hq
    obtain⟨i,hi⟩:=List.getElem?_of_mem hp
    obtain⟨xs,sz,h1,_⟩:=h.row i p hi
    rw[h1];simp
theorem dG.cell(h:dG H G L T){k:Nat}{v:Value}(hk:(G.cells L.w L.u T.m)[k]? = some v):aw.cell H ((⟨G.g,0,none⟩:Addr).add k)=some v:=by
 simp[aw.cell,iX,h.st,hk]
theorem dG.ja(h:dG H G L T):aw.cell H (⟨G.g,0,none⟩:Addr)=some (.int .i64 (L.w:Int)):=by
 have:=h.cell (k:=0) (v:= .int .i64 (L.w:Int)) rfl
 rwa [iX]at this
theorem TG.BJ{G:TG}(h:G.gs.Nodup){q:Nat}(hq:q∈G.cb∨q∈G.bb∨∃(i:Nat)(p:Nat×Nat),G.rg[i]? = some p∧p.1=q):G.g≠q:=by
 have h1:=(List.nodup_cons.1 h).1
 intro e
 subst e
 apply h1
 rcases hq with hq | hq | ⟨i,p,hp,he⟩
 ·exact List.mem_append_left _ hq
 ·exact List.mem_append_right _ (List.mem_append_left _ hq)
 ·exact List.mem_append_right _ (List.mem_append_right _ (List.mem_map.2 ⟨p,List.mem_of_getElem? hp,he⟩))
theorem TG.BK{G:TG}(h:G.gs.Nodup){q r:Nat}(hq:q∈G.cb)(hr:r∈G.bb∨∃(i:Nat)(p:Nat×Nat),G.rg[i]? = some p∧p.1=r):q≠r:=by
 have h1:=(List.nodup_append.1 (List.nodup_cons.1 h).2).2.2 q hq
 refine h1 r ?_
 rcases hr with hr | ⟨i,p,hp,he⟩
 ·exact List.mem_append_left _ hr
 ·exact List.mem_append_right _ (List.mem_map.2 ⟨p,List.mem_of_getElem? hp,he⟩)
theorem TG.GY{G:TG}(h:G.gs.Nodup){q:Nat}(hq:q∈G.bb){i:Nat}{p:Nat×Nat}(hp:G.rg[i]? = some p):q≠p.1:=
 (List.nodup_append.1 (List.nodup_append.1 (List.nodup_cons.1 h).2).2.1).2.2 q hq p.1 (List.mem_map.2 ⟨p,List.mem_of_getElem? hp,rfl⟩)
theorem TG.Lx{G:TG}(h:G.gs.Nodup){i j:Nat}{p q:Nat×Nat}(hp:G.rg[i]? = some p)(hq:G.rg[j]? = some q)(a7:i≠j):p.1≠q.1:=by
 have h1:=(List.nodup_append.1 (List.nodup_append.1 (List.nodup_cons.1 h).2).2.1).2.1
 intro e
 have hi:(G.rg.map (·.1))[i]? = some p.1:=by rw[List.getElem?_map,hp];rfl
 have hj:(G.rg.map (·.1))[j]? = some p.1:=by rw[List.getElem?_map,hq,e];rfl
 obtain⟨hi1,uS⟩:=List.getElem?_eq_some_iff.1 hi
 obtain⟨vf,wB⟩:=List.getElem?_eq_some_iff.1 hj
 exact a7 ((List.getElem_inj h1).1 (uS.trans wB.symm))
theorem dG.kept(h:dG H G L T)(k:Kept G.gs H H'):dG H' G L T where
 n:=h.n
 uw:=h.uw
 st:=by rw[k.same _ G.se];exact h.st
 nd:=h.nd
 iH:=h.iH
 rows:=by obtain⟨xs,h1,h2⟩:=h.rows;exact⟨xs,h1.le k.le,h2⟩
 row:=fun i p hp=>(h.row i p hp).le k.le (k.same _ (TG.gP hp))
 basis:=by
  rcases h.basis with h1 | ⟨gb,cb,sz,h1,h2,h3⟩
  ·exact .inl h1
  ·exact .inr ⟨gb,cb,sz,h1,h2,by rw[k.same _ (TG.mT (by rw[h1];exact List.mem_singleton.2 rfl))];exact h3⟩
 plus:=h.plus.le mS k.le
 minus:=h.minus.le vx k.le
 ku:=h.ku.le mS k.le
 ke:=h.ke.le jr k.le
 cb:=fun q hq=>by rw[k.same _ (TG.zo hq)];exact h.cb q hq
theorem iZ.kept(h:iZ H G L T)(k:Kept G.gs H H'):iZ H' G L T:=by
 obtain⟨gc,cc,h1,h2,h3⟩:=h
 exact⟨gc,cc,h1,h2,h3.le k.le (k.same _ (TG.zo (by rw[h1];exact List.mem_singleton.2 rfl)))⟩
theorem dG.congr{T':ar}(h:dG H G L T)(hm:T'.m=T.m)(hn:T'.n=T.n)(hA:∀i,i<T.m→∀j,j≤T.n→T'.A i j=T.A i j)(hB:∀i,i<T.m→T'.B i=T.B i):dG H G L T' where
 n:=hn.trans h.n
 uw:=h.uw
 st:=by rw[hm];exact h.st
 nd:=h.nd
 iH:=h.iH.trans hm.symm
 rows:=h.rows
 row:=fun i p hp=>by
  have hi:i<T.m:=by rw[←h.iH];exact(List.getElem?_eq_some_iff.1 hp).1
  rw[lI (g:=T.A i) (fun j hj=>hA i hi j (by rw[h.n];omega))];exact h.row i p hp
 basis:=by
  rw[hm,Xc hB];exact h.basis
 plus:=h.plus
 minus:=h.minus
 ku:=h.ku
 ke:=h.ke
 cb:=h.cb
theorem iZ.congr{T':ar}(h:iZ H G L T)(hc:∀j,j≤L.w→T'.c j=T.c j):iZ H G L T':=by
 obtain⟨gc,cc,h1,h2,h3⟩:=h
 exact⟨gc,cc,h1,h2,by rw[lI (g:=T.c) (fun j hj=>hc j (by omega))];exact h3⟩
def _root_.Lp.ar.setRow(T:ar)(i:Nat)(f:Nat→Rat):ar:={T with A:=fun k=>if k=i then f else T.A k}
theorem dG.setRow(h:dG H G L T){i:Nat}{p:Nat×Nat}(hp:G.rg[i]? = some p)(k:fT G.gs p.1 H H'){f:Nat→Rat}(hb:lJ (rem H' G.gs) H' p.1 (aL f (L.w+1))):dG H' G L (T.setRow i f) where
 n:=h.n
 uw:=h.uw
 st:=by rw[k.same _ G.se (TG.BJ h.nd (.inr (.inr ⟨i,p,hp,rfl⟩)))];exact h.st
 nd:=h.nd
 iH:=h.iH
 rows:=by obtain⟨xs,h1,h2⟩:=h.rows;exact⟨xs,h1.le k.le,h2⟩
 row:=fun j q hq=>by
  by_cases e:j=i
  ·subst e
   rw[hp]at hq
   cases hq
   simp only[ar.setRow,if_true]
   exact hb
  ·simp only[ar.setRow,if_neg e]
   exact(h.row j q hq).le k.le (k.same _ (TG.gP hq) (TG.Lx h.nd hq hp e))
 basis:=by
  rcases h.basis with h1 | ⟨gb,cb,sz,h1,h2,h3⟩
  ·exact .inl h1
  ·have hm:gb∈G.bb:=by rw[h1];exact List.mem_singleton.2 rfl
   exact .inr ⟨gb,cb,sz,h1,h2,by rw[k.same _ (TG.mT hm) (TG.GY h.nd hm hp)];exact h3⟩
 plus:=h.plus.le mS k.le
 minus:=h.minus.le vx k.le
 ku:=h.ku.le mS k.le
 ke:=h.ke.le jr k.le
 cb:=fun q hq=>by rw[k.same _ (TG.zo hq) (TG.BK h.nd hq (.inr ⟨i,p,hp,rfl⟩))];exact h.cb q hq
theorem iZ.setRow(h:iZ H G L T)(nd:G.gs.Nodup){i:Nat}{p:Nat×Nat}(hp:G.rg[i]? = some p)(k:fT G.gs p.1 H H')(f:Nat→Rat):iZ H' G L (T.setRow i f):=by
 obtain⟨gc,cc,h1,h2,h3⟩:=h
 have hm:gc∈G.cb:=by rw[h1];exact List.mem_singleton.2 rfl
 exact⟨gc,cc,h1,h2,h3.le k.le (k.same _ (TG.zo hm) (TG.BK nd hm (.inr ⟨i,p,hp,rfl⟩)))⟩
theorem dG.af6(h:dG H G L T){gc:Nat}(hc:G.cb = [gc])(k:fT G.gs gc H H'){f:Nat→Rat}(hb:lJ (rem H' G.gs) H' gc (aL f (L.w+1))):dG H' G L {T with c:=f}:=by
 have hm:gc∈G.cb:=by rw[hc];exact List.mem_singleton.2 rfl
 exact
 {n:=h.n
  uw:=h.uw
  st:=by rw[k.same _ G.se (TG.BJ h.nd (.inl hm))];exact h.st
  nd:=h.nd
  iH:=h.iH
  rows:=by obtain⟨xs,h1,h2⟩:=h.rows;exact⟨xs,h1.le k.le,h2⟩
  row:=fun j q hq=>(h.row j q hq).le k.le (k.same _ (TG.gP hq) (fun e=>TG.BK h.nd hm (.inr ⟨j,q,hq,rfl⟩) e.symm))
  basis:=by
   rcases h.basis with h1 | ⟨gb,cb,sz,h1,h2,h3⟩
   ·exact .inl h1
   ·have bI:gb∈G.bb:=by rw[h1];exact List.mem_singleton.2 rfl
    exact .inr ⟨gb,cb,sz,h1,h2,by rw[k.same _ (TG.mT bI) (fun e=>TG.BK h.nd hm (.inl bI) e.symm)];exact h3⟩
  plus:=h.plus.le mS k.le
  minus:=h.minus.le vx k.le
  ku:=h.ku.le mS k.le
  ke:=h.ke.le jr k.le
  cb:=fun q hq=>by
   rw[hc,List.mem_singleton]at hq
   obtain⟨xs,sz,h1,_⟩:=hb
   rw[hq,h1];simp}
theorem dG.D9(h:dG H G L T){gb cb sz:Nat}(hb:G.bb = [gb])(hv:G.bv = .slice (some ⟨gb,0,none⟩) T.m cb){r s:Nat}{e:Ent}(he:e=⟨eL (fun i=>if i=r then s else T.B i) T.m,sz,3,true⟩):dG (ins H gb e) G L {T with B:=fun i=>if i=r then s else T.B i}:=by
 have hm:gb∈G.bb:=by rw[hb];exact List.mem_singleton.2 rfl
 have k:fT G.gs gb H (ins H gb e):=((Kept.refl _ _).iO gb).ins (TG.mT hm) e
 exact
 {n:=h.n
  uw:=h.uw
  st:=by rw[k.same _ G.se (TG.BJ h.nd (.inr (.inl hm)))];exact h.st
  nd:=h.nd
  iH:=h.iH
  rows:=by obtain⟨xs,h1,h2⟩:=h.rows;exact⟨xs,h1.le k.le,h2⟩
  row:=fun j q hq=>(h.row j q hq).le k.le (k.same _ (TG.gP hq) (fun e=>TG.GY h.nd hm hq e.symm))
  basis:= .inr ⟨gb,cb,sz,hb,hv,by rw[bF,he]⟩
  plus:=h.plus.le mS k.le
  minus:=h.minus.le vx k.le
  ku:=h.ku.le mS k.le
  ke:=h.ke.le jr k.le
  cb:=fun q hq=>by rw[k.same _ (TG.zo hq) (TG.BK h.nd hq (.inl hm))];exact h.cb q hq}
theorem iZ.D9(h:iZ H G L T)(nd:G.gs.Nodup){gb:Nat}(hb:G.bb = [gb])(e:Ent)(B:Nat→Nat):iZ (ins H gb e) G L {T with B:=B}:=by
 have hm:gb∈G.bb:=by rw[hb];exact List.mem_singleton.2 rfl
 have k:fT G.gs gb H (ins H gb e):=((Kept.refl _ _).iO gb).ins (TG.mT hm) e
 obtain⟨gc,cc,h1,h2,h3⟩:=h
 have Xd:gc∈G.cb:=by rw[h1];exact List.mem_singleton.2 rfl
 exact⟨gc,cc,h1,h2,h3.le k.le (k.same _ (TG.zo Xd) (TG.BK nd Xd (.inl hm)))⟩
structure Sz(N:Nat)(T:ar):Prop where
 A:∀i,i<T.m→∀j,j≤T.n→aP (T.A i j)≤N
 c:∀j,j≤T.n→aP (T.c j)≤N
end
end Go.aw
namespace Go.aw
open Go.Proofs Num Lp
section
variable {H:Heap} {G:TG} {L:TL} {T:ar} {N:Nat} {fs:List Value} {f:Rat}
theorem af7(h:dG H G L T){i r:Nat}{p q:Nat×Nat}(hp:G.rg[i]? = some p)(hq:G.rg[r]? = some q)(a7:i≠r)(hf:bS (rem H G.gs) fs f)(hN:(N:Int)≤549755813888)(hw:(L.w:Int)≤1000000)(sf:aP f≤N)(si:∀j,j≤L.w→aP (T.A i j)≤N)(sr:∀j,j≤L.w→aP (T.A r j)≤N):
  Fn Tryz.prog 125 #[.pointer (some ⟨G.g,0,none⟩),.slice (some ⟨p.1,0,none⟩) (L.w+1) p.2,.int .i64 (r:Int),.agg fs.toArray] H (fun _ H'=>dG H' G L (T.setRow i (fun j=>T.A i j-f*T.A r j))∧fT G.gs p.1 H H'):=by
 obtain⟨qT,mG,jo⟩:=h.rows
 refine(Xa (N:=N) h.ne G.se (TG.gP hp) (TG.gP hq) (TG.Lx h.nd hp hq a7) (TG.BJ h.nd (.inr (.inr ⟨i,p,hp,rfl⟩))) h.st rfl mG ?_ (jo r q hq) (h.row r q hq) (h.row i p hp) hf hN (by omega) sf (fun j hj=>sr j (by omega)) (fun j hj=>si j (by omega))).mono fun v H' hh=>⟨h.setRow hp hh.1 hh.2,hh.1⟩
 rw[←h.iH];exact(List.getElem?_eq_some_iff.1 hq).1
theorem Xe(h:dG H G L T)(hc:iZ H G L T){r:Nat}{q:Nat×Nat}(hq:G.rg[r]? = some q)(hf:bS (rem H G.gs) fs f)(hN:(N:Int)≤549755813888)(hw:(L.w:Int)≤1000000)(sf:aP f≤N)(si:∀j,j≤L.w→aP (T.c j)≤N)(sr:∀j,j≤L.w→aP (T.A r j)≤N):
  Fn Tryz.prog 125 #[.pointer (some ⟨G.g,0,none⟩),G.cv,.int .i64 (r:Int),.agg fs.toArray] H (fun _ H'=>dG H' G L {T with c:=fun j=>T.c j-f*T.A r j}∧iZ H' G L {T with c:=fun j=>T.c j-f*T.A r j}∧Heap.le (rem H G.gs) (rem H' G.gs)):=by
 obtain⟨qT,mG,jo⟩:=h.rows
 obtain⟨gc,cc,h1,h2,h3⟩:=hc
 have hm:gc∈G.cb:=by rw[h1];exact List.mem_singleton.2 rfl
 rw[h2]
 refine(Xa (N:=N) h.ne G.se (TG.zo hm) (TG.gP hq) (TG.BK h.nd hm (.inr ⟨r,q,hq,rfl⟩)) (TG.BJ h.nd (.inl hm)) h.st rfl mG ?_ (jo r q hq) (h.row r q hq) h3 hf hN (by omega) sf (fun j hj=>sr j (by omega)) (fun j hj=>si j (by omega))).mono fun v H' hh=>⟨h.af6 h1 hh.1 hh.2,⟨gc,cc,h1,h2,hh.2⟩,hh.1.le⟩
 rw[←h.iH];exact(List.getElem?_eq_some_iff.1 hq).1
end
theorem Qa{B:Nat→Nat}{m r s:Nat}:(eL B m).set r (.int .i64 (s:Int))=eL (fun i=>if i=r then s else B i) m:=by
 apply List.ext_getElem?
 intro i
 by_cases hi:i<m
 ·by_cases e:i=r
  ·subst e
   rw[List.getElem?_set_self (by rw[BI];exact hi),gO hi,if_pos rfl]
  ·rw[List.getElem?_set_ne (fun e'=>e e'.symm),gO hi,gO hi,if_neg e]
 ·rw[List.getElem?_eq_none (by rw[List.length_set,BI];omega),List.getElem?_eq_none (by rw[BI];omega)]
def lL(T:ar)(r s k:Nat):ar:={T with A:=fun i=>if i=r then(fun j=>T.A r j/T.A r s)else if i<k then(fun j=>T.A i j-T.A i s*(T.A r j/T.A r s))else T.A i}
theorem af8{T:ar}{r s k:Nat}(hk:k≠r)(i j:Nat):(lL T r s (k+1)).A i j=((lL T r s k).setRow k (fun j=>(lL T r s k).A k j-T.A k s*(lL T r s k).A r j)).A i j:=by
 unfold ar.setRow lL
 simp only
 by_cases e1:i=k
 ·subst e1
  rw[if_neg hk,if_pos (by omega),if_pos rfl,if_neg hk,if_neg (by omega),if_pos trivial]
 ·rw[if_neg e1]
  by_cases e2:i=r
  ·rw[if_pos e2,if_pos e2]
  ·rw[if_neg e2,if_neg e2]
   by_cases e3:i<k
   ·rw[if_pos (by omega),if_pos e3]
   ·rw[if_neg (by omega),if_neg e3]
theorem af9{T:ar}{r s k:Nat}(hk:k=r)(i j:Nat):(lL T r s (k+1)).A i j=(lL T r s k).A i j:=by
 unfold lL
 simp only
 by_cases e2:i=r
 ·rw[if_pos e2,if_pos e2]
 ·rw[if_neg e2,if_neg e2]
  by_cases e3:i<k
  ·rw[if_pos (by omega),if_pos e3]
  ·rw[if_neg (by omega),if_neg e3]
theorem dG.get{H:Heap}{G:TG}{L:TL}{T:ar}(h:dG H G L T){i:Nat}(hi:i<T.m):∃p,G.rg[i]? = some p:=⟨_,List.getElem?_eq_getElem (by rw[h.iH];exact hi)⟩
theorem Xf{H:Heap}{G:TG}{L:TL}{T:ar}{N r s:Nat}(h:dG H G L T)(hc:iZ H G L T)(hr:r<T.m)(hs:s<L.w)(hp:T.A r s≠0)(hz:Sz N T)(Qb:Sz N (T.pivot r s))(hN:(N:Int)≤549755813888)(hw:(L.w:Int)≤1000000)(hm:(T.m:Int)≤1000000):
 Fn Tryz.prog 127 #[.pointer (some ⟨G.g,0,none⟩),.int .i64 (r:Int),.int .i64 (s:Int)] H (fun _ H'=>dG H' G L (T.pivot r s)∧iZ H' G L (T.pivot r s)∧Heap.le (rem H G.gs) (rem H' G.gs)):=by
 obtain⟨pr,cW⟩:=h.get hr
 obtain⟨qT,mG,jo⟩:=h.rows
 have mQ:s≤T.n:=by rw[h.n];omega
 have Xg:∀j,j≤L.w→aP (T.A r j/T.A r s)≤N:=fun j hj=>by
  have:=Qb.A r hr j (by show j≤T.n;rw[h.n];exact hj)
  simpa [ar.pivot]using this
 have Ly:∀i,i<T.m→∀j,j≤L.w→aP (T.A i j)≤N:=fun i hi j hj=>hz.A i hi j (by rw[h.n];exact hj)
 obtain⟨xp,np,dp,bp,mh,hnp,BL⟩:=(h.row r pr cW).rd (dM (show s<L.w+1 by omega));refine aZ (args:=[_,_,_]) Tryz.func127 rfl rfl Tryz.ntmps127 rfl rfl fun w0=> ?_;refine aj [0,1,2] rfl ?_;refine ag (ab 2 rfl (aV ah rfl rfl rfl (aT ah rfl rfl rfl (h.cell rfl) (ab 1 rfl (aS ah rfl rfl rfl rfl rfl (mG.le (bt _ _)) (by rw[Int.toNat_natCast];exact jo r pr cW) (by omega) (by omega) fun _=> ?_)))));refine ab 1 rfl (ae [0,1,2,6] ?_);refine ag (ab 2 rfl (ck (vs:=[.int .i64 np,.int .i64 dp,.pointer bp]) ah rfl rfl rfl rfl mh rfl (by decide) (by rw[Int.toNat_natCast];exact BL) (by omega) (by omega) fun _=> ?_));refine bn fk rfl ?_;obtain⟨ti,ak,al⟩:=cJ;refine aI (.inl ⟨rfl,rfl⟩) rfl rfl rfl ak al rfl rfl rfl (ae [0,1,2,6,7] ?_);refine aq (ag (ab 3 rfl (ae [0,1,2,6,7,23,24,25] ?_)));refine aG (gK (fun(k:Nat)=>L.w+1-k) (fun(k:Nat)=>put (put (put (put (put (put (put (put (emp) 0 (.val (.pointer (some ⟨G.g,0,none⟩)))) 1 (.val (.int .i64 (r:Int)))) 2 (.val (.int .i64 (s:Int)))) 6 (.val (.slice (some ⟨pr.1,0,none⟩) (L.w+1) pr.2))) 7 (.box [.int .i64 np,.int .i64 dp,.pointer bp])) 23 (.val (.slice (some ⟨pr.1,0,none⟩) (L.w+1) pr.2))) 24 (.val (.int .i64 ((L.w+1:Nat):Int)))) 25 (.val (.int .i64 (k:Int)))) (fun(k:Nat) H'=>fT G.gs pr.1 H H'∧lJ (rem H' G.gs) H' pr.1 (aL (mf (fun j=>T.A r j/T.A r s) (T.A r) k) (L.w+1))∧k≤L.w+1) 0 (⟨(Kept.refl _ _).iO _,by rw[W6];exact h.row r pr cW,Nat.zero_le _⟩) au ?_)
 rintro k H2 ⟨fj,bU,fO⟩;have aga:=hnp.le fj.le
 have wZ:∀q,q∈G.gs→H2 q≠none:=fun q hq=>by
  by_cases e:q=pr.1
  ·
   obtain⟨xs,sz,h,_⟩:=bU;rw[e,h];simp
  ·rw[fj.same q hq e];exact h.ne q hq
 refine ag (ab 1 rfl (ae [0,1,2,6,7,23,24,25,26] ?_));refine aq (aD rfl (fun hb=> ?_) (fun hb=> ?_))
 ·
  have gn:k<L.w+1:=by simp at hb;omega
  obtain⟨xl,nl,dl,bl,nF,zm,cP⟩:=bU.rd (dM gn);rw[show mf (fun j=>T.A r j/T.A r s) (T.A r) k k=T.A r k by simp[mf]]at zm;have P8:=Ly r hr k (by omega);have Xb:=Ly r hr s (by omega);refine aA (aj [0,1,2,6,7,23,24,25] rfl ?_);refine aq (aG (ag (ab 1 rfl (ck (vs:=[.int .i64 nl,.int .i64 dl,.pointer bl]) ah rfl rfl rfl rfl nF rfl (by decide) cP (by omega) (by omega) fun _=>(bn fk rfl (vr 1 ?_))))));obtain⟨ti,ak,al⟩:=cJ;refine aI (.inl ⟨rfl,rfl⟩) rfl rfl rfl ak al rfl rfl rfl (ae [0,1,2,6,7,8,9,23,24,25] ?_);refine ag (ab 1 rfl (aF rfl rfl (Fn.mg wZ (tK zm (by omega))) ?_));rintro v3 H3 ⟨dy,gN,rfl⟩;have Lw:=dy.ne wZ;refine ab 1 rfl (ae [0,1,2,6,7,8,9,23,24,25,32] ?_);refine aD rfl (fun hb=> ?_) (fun hb=> ?_)
  ·
   skip
   refine aC rfl (ab 4 rfl (aF rfl rfl (Fn.lK Lw (WX (N:=N) (zm.le dy.le) (aga.le dy.le) P8 Xb (by omega) hp)) ?_));rintro v4 H4 ⟨gp,dV,n4,d4,b4,rfl,cI⟩;obtain⟨GW,sz6,oj,GX⟩:=bU.le (dy.le.trans gp.le) ((gp.same _ (TG.gP cW)).trans (dy.same _ (TG.gP cW)));have P9:=GX.len;rw[bh]at P9;obtain⟨ti,ak,al⟩:=cJ;refine cV (.inl rfl) ah rfl rfl rfl (by omega) (by omega) (oj) rfl (by show 0+(L.w+1)*3≤GW.length;omega) ak al (fun _=>rfl) rfl rfl rfl fun _=> ?_;refine az (aj [0,1,2,6,7,23,24,25] rfl ?_);refine aC rfl (aH rfl rfl ⟨by omega,by omega⟩ (ab 1 rfl (az ?_)));exact⟨k+1,by omega,au,((fj.trans (dy.iO _)).trans (gp.iO _)).ins (TG.gP cW) _,by rw[cK _ (TG.gP cW)];exact lJ.set GX gn cI (by rw[bF,Nat.zero_add];rfl),by omega⟩
  ·
   have js:T.A r k=0:=tO (by simpa using hb);refine aA (aj [0,1,2,6,7,23,24,25] rfl ?_);refine aC rfl (aH rfl rfl ⟨by omega,by omega⟩ (ab 1 rfl (az ?_)));exact⟨k+1,by omega,au,fj.trans (dy.iO _),by rw[←W5 (show (fun j=>T.A r j/T.A r s) k=T.A r k by show T.A r k/T.A r s=T.A r k;rw[js,Rat.div_def,Rat.zero_mul])];exact bU.le dy.le (dy.same _ (TG.gP cW)),by omega⟩
 ·
  have hb:L.w+1≤k:=by simp at hb;omega
  obtain rfl:k=L.w+1:=by omega
  rw[W7]at bU;have fc:=fj.le;have vn:=(hc.setRow h.nd cW fj (fun j=>T.A r j/T.A r s)).congr (T':=lL T r s 0) (fun j _=>rfl);have h3:=(h.setRow cW fj bU).congr (T':=lL T r s 0) rfl rfl (fun i hi j hj=>by simp only[lL,ar.setRow];split <;> rfl) (fun i hi=>rfl);refine aW (aj [0,1,2] rfl ?_);refine aq (ag (ab 2 rfl (aV ah rfl rfl rfl (aT ah rfl rfl rfl (h3.cell rfl) (ab 2 rfl (ae [0,1,2,43,44,45] ?_))))));refine aG (gK (fun(k:Nat)=>T.m-k) (fun(k:Nat)=>put (put (put (put (put (put (emp) 0 (.val (.pointer (some ⟨G.g,0,none⟩)))) 1 (.val (.int .i64 (r:Int)))) 2 (.val (.int .i64 (s:Int)))) 43 (.val (.slice G.Ar T.m G.cr))) 44 (.val (.int .i64 (T.m:Int)))) 45 (.val (.int .i64 (k:Int)))) (fun(k:Nat) H'=>dG H' G L (lL T r s k)∧iZ H' G L (lL T r s k)∧Heap.le (rem H G.gs) (rem H' G.gs)∧k≤T.m) 0 (⟨h3,vn,fc,Nat.zero_le _⟩) au ?_);rintro k H4 ⟨h4,pc,kM,gp⟩;refine ag (ab 1 rfl (ae [0,1,2,43,44,45,46] ?_));refine aq (aD rfl (fun hb=> ?_) (fun hb=> ?_))
  ·
   have lM:k<T.m:=by simpa using hb
   obtain⟨pk,qU⟩:=h.get lM;obtain⟨xs4,BM,l8⟩:=h4.rows;refine aA (aj [0,1,2,43,44,45] rfl ?_);refine aq (aG (ag (ab 1 rfl (aS ah rfl rfl rfl rfl rfl (BM.le (bt _ _)) (by rw[Int.toNat_natCast];exact l8 k pk qU) (by omega) (by omega) fun _=> ?_))));refine ab 2 rfl (ae [0,1,2,10,11,43,44,45] ?_);refine ag (ab 3 rfl (ae [0,1,2,11,43,44,45,52] ?_));refine aD rfl (fun hb=> ?_) (fun hb=> ?_)
   ·
    have tv:k≠r:=by simp at hb;omega
    obtain⟨xk,nk,dk,bk,LA,GZ,LB⟩:=(h4.row k pk qU).rd (dM (show s<L.w+1 by omega));rw[show (lL T r s k).A k s=T.A k s by simp[lL,tv]]at GZ;refine aC rfl (ab 5 rfl (ck (vs:=[.int .i64 nk,.int .i64 dk,.pointer bk]) ah rfl rfl rfl rfl LA rfl (by decide) (by rw[Int.toNat_natCast];exact LB) (by omega) (by omega) fun _=> ?_));refine aF rfl rfl (af7 (N:=N) h4 qU cW tv GZ hN hw (Ly k lM s (by omega)) (fun j hj=>by simpa [lL,tv]using Ly k lM j hj) (fun j hj=>by simpa [lL]using Xg j hj)) ?_;rintro v5 H5 ⟨h5,w9⟩;refine az (aj [0,1,2,43,44,45] rfl ?_);refine aC rfl (aH rfl rfl ⟨by omega,by omega⟩ (ab 1 rfl (az ?_)));exact⟨k+1,by omega,au,h5.congr rfl rfl (fun i hi j hj=>af8 tv i j) (fun i hi=>rfl),(pc.setRow h4.nd qU w9 (fun _=>0)).congr (fun j _=>rfl),kM.trans w9.le,by omega⟩
   have tv:k=r:=by simp at hb;omega
   refine aA (aj [0,1,2,43,44,45] rfl ?_);refine aC rfl (aH rfl rfl ⟨by omega,by omega⟩ (ab 1 rfl (az ?_)));exact⟨k+1,by omega,au,h4.congr rfl rfl (fun i hi j hj=>af9 tv i j) (fun i hi=>rfl),pc.congr (fun j _=>rfl),kM,by omega⟩
  have hb:T.m≤k:=by simpa using hb
  obtain rfl:k=T.m:=by omega
  obtain⟨gc,cc,G6,bm,BN⟩:=id pc;obtain⟨xc,nc,dc,bc,om,yI,tP⟩:=BN.rd (dM (show s<L.w+1 by omega))
  have pC:cell H4 ((⟨G.g,0,none⟩:Addr).add 7)=some (.slice (some ⟨gc,0,none⟩) (L.w+1) cc):=by rw[←bm];exact h4.cell rfl
  refine aW (aj [0,1,2] rfl ?_);refine bP .uM [0,1,2,3,4,5,6,7,8,9,10,11,12,13] follows (by kernel_rfl) ?_;refine ab 3 rfl (aV ah rfl rfl rfl (aT ah rfl rfl rfl (pC) (ab 3 rfl (aV ah rfl rfl rfl (aT ah rfl rfl rfl (pC) (ab 1 rfl (ck (vs:=[.int .i64 nc,.int .i64 dc,.pointer bc]) ah rfl rfl rfl rfl om rfl (by decide) (by rw[Int.toNat_natCast];exact tP) (by omega) (by omega) fun _=> ?_)))))));refine Wj rfl rfl (by rw[←bm];exact Xe (N:=N) h4 pc cW yI hN hw (hz.c s mQ) (fun j hj=>hz.c j (by rw[h.n];exact hj)) (fun j hj=>by simpa [lL]using Xg j hj)) ?_;rintro v6 H6 ⟨h6,qV,sh⟩
  obtain⟨gb,cb,sz,lH,dr,bo⟩:∃gb cb sz,G.bb = [gb]∧G.bv = .slice (some ⟨gb,0,none⟩) T.m cb∧H6 gb=some ⟨eL T.B T.m,sz,3,true⟩:=by
   rcases h6.basis with h7 | h7
   ·
    have h8:T.m=0:=h7.1
    omega
   ·exact h7
  refine ae [0,1,2] ?_;refine aC rfl (ab 2 rfl (aV ah rfl rfl rfl (aT ah rfl rfl rfl (show cell H6 _=some (.slice (some ⟨gb,0,none⟩) T.m cb)from by rw[←dr];exact h6.cell rfl) ?_)));refine vr 2 ?_;obtain⟨ti,ak,al⟩:=p3;refine cV (.inl rfl) ah rfl rfl rfl (by omega) (by omega) (bo) rfl (by show 0+T.m*1≤(eL T.B T.m).length;rw[BI];omega) ak al (fun _=>rfl) rfl rfl rfl fun _=> ?_;refine az ?_;refine⟨.inl rfl,_,.nil,?_⟩
  have he:({(⟨eL T.B T.m,sz,3,true⟩:Ent)with xs:=aM (eL T.B T.m) (0+((r:Int)).toNat*1) [.int .i64 (s:Int)]}:Ent)=⟨eL (fun i=>if i=r then s else T.B i) T.m,sz,3,true⟩:=by
   rw[Int.toNat_natCast,Nat.mul_one,Nat.zero_add,←Qa];rfl
  refine⟨(h6.D9 (r:=r) (s:=s) (sz:=sz) lH dr he).congr (T':=T.pivot r s) rfl rfl (fun i hi j hj=> ?_) (fun i hi=>rfl),(qV.D9 h6.nd lH _ (fun _=>0)).congr (T':=T.pivot r s) (fun j hj=> ?_),?_⟩
  ·
   have gi:i<T.m:=hi
   simp only[ar.pivot,lL]
   by_cases e:i=r
   ·simp[e]
   ·simp[e,gi]
  ·simp[ar.pivot,lL]
  have LC:gb∈G.gs:=TG.mT (by rw[lH];exact List.mem_singleton.2 rfl);rw[cK _ LC];exact kM.trans sh
end Go.aw
namespace Go.aw
open Go.Proofs Num Lp
theorem G8{q:Rat}:0≤ik q↔0≤q:=by
 unfold ik
 by_cases h:q<0
 ·rw[if_pos h];constructor <;> intro h' <;> first | omega | grind
 ·rw[if_neg h]
  by_cases e:q=0
  ·rw[if_pos e];constructor <;> intro h' <;> first | omega | grind
  ·rw[if_neg e];constructor <;> intro h' <;> first | omega | grind
theorem Qd{q:Rat}:ik q≤0↔q≤0:=by
 unfold ik
 by_cases h:q<0
 ·rw[if_pos h];constructor <;> intro h' <;> first | omega | grind
 ·rw[if_neg h]
  by_cases e:q=0
  ·rw[if_pos e];constructor <;> intro h' <;> first | omega | grind
  ·rw[if_neg e];constructor <;> intro h' <;> first | omega | grind
theorem LD{q:Rat}:ik q<0↔q<0:=by
 have:=G8 (q:=q)
 constructor
 ·intro h;false_or_by_contra;have:=this.2 (by grind);omega
 ·intro h;false_or_by_contra;have:=this.1 (by omega);grind
theorem Ea{q:Rat}:0<ik q↔0<q:=by
 have:=Qd (q:=q)
 constructor
 ·intro h;false_or_by_contra;have:=this.2 (by grind);omega
 ·intro h;false_or_by_contra;have:=this.1 (by omega);grind
theorem zp{q:Rat}:ik q=0↔q=0:=by
 constructor
 ·exact tO
 ·intro h;rw[h];rfl
theorem Xh(q:Rat):aP q⁻¹≤aP q:=by
 by_cases h:q=0
 ·rw[h,Rat.inv_zero];exact Nat.le_refl _
 ·have hn:0<q.num.natAbs:=by
   have:q.num≠0:=fun e=>h (Rat.num_eq_zero.1 e)
   omega
  have e:=V3 (g:=decide (q.num<0)) (m:=q.num.natAbs) (e:=q.den) hn
  rw[wE]at e
  have h1:=mH (Nat.div_le_self q.den (Nat.gcd q.den q.num.natAbs))
  have h2:=mH (Nat.div_le_self q.num.natAbs (Nat.gcd q.den q.num.natAbs))
  rw[e]
  unfold aP
  rw[Bh hn,yU hn];omega
theorem Eb(p q:Rat):aP (p/q)≤aP p+aP q:=by
 rw[Rat.div_def]
 have h1:=vp p q⁻¹
 have h2:=Xh q
 omega
def Found(T:ar)(s k:Nat)(row:Int)(K:Heap)(ls:List Value):Prop:=
 (row = -1∧∀i,i<k→T.A i s≤0)∨∃r:Nat,row=(r:Int)∧r<k∧0<T.A r s∧bS K ls (T.A r T.n/T.A r s)∧
  ∀i,i<k→0<T.A i s→T.A r T.n/T.A r s<T.A i T.n/T.A i s∨(T.A r T.n/T.A r s=T.A i T.n/T.A i s∧T.B r≤T.B i)
section
variable {T:ar} {s k:Nat} {row:Int} {K K':Heap} {ls:List Value}
theorem Found.le(h:Found T s k row K ls)(hl:Heap.le K K'):Found T s k row K' ls:=by
 rcases h with h | ⟨r,h1,h2,h3,h4,h5⟩
 ·exact .inl h
 ·exact .inr ⟨r,h1,h2,h3,h4.le hl,h5⟩
theorem Found.skip(h:Found T s k row K ls)(hk:T.A k s≤0):Found T s (k+1) row K ls:=by
 rcases h with ⟨h1,h2⟩ | ⟨r,h1,h2,h3,h4,h5⟩
 ·exact .inl ⟨h1,fun i hi=>by
   by_cases e:i=k
   ·rw[e];exact hk
   ·exact h2 i (by omega)⟩
 ·exact .inr ⟨r,h1,by omega,h3,h4,fun i hi hp=>by
   by_cases e:i=k
   ·rw[e]at hp;grind
   ·exact h5 i (by omega) hp⟩
theorem Found.new{Xi:List Value}(h:Found T s k row K ls)(hk:0<T.A k s)(hn:bS K Xi (T.A k T.n/T.A k s))(hl:row = -1∨∀r:Nat,row=(r:Int)→T.A k T.n/T.A k s<T.A r T.n/T.A r s):Found T s (k+1) (k:Int) K Xi:=by
 refine .inr ⟨k,rfl,by omega,hk,hn,fun i hi hp=> ?_⟩
 by_cases e:i=k
 ·rw[e];exact .inr ⟨rfl,Nat.le_refl _⟩
 ·rcases h with ⟨h1,h2⟩ | ⟨r,h1,h2,h3,h4,h5⟩
  ·have:=h2 i (by omega);grind
  ·have h6:T.A k T.n/T.A k s<T.A r T.n/T.A r s:=by
    rcases hl with hl | hl
    ·omega
    ·exact hl r h1
   rcases h5 i (by omega) hp with h7 | h7
   ·left;grind
   ·left;rw[←h7.1];exact h6
theorem Found.tie(h:Found T s k row K ls)(hk:0<T.A k s){r:Nat}(hr:row=(r:Int))(he:T.A k T.n/T.A k s=T.A r T.n/T.A r s)(hB:T.B k<T.B r):Found T s (k+1) (k:Int) K ls:=by
 rcases h with ⟨h1,h2⟩ | ⟨r',h1,h2,h3,h4,h5⟩
 ·omega
 ·obtain rfl:r'=r:=by omega
  refine .inr ⟨k,rfl,by omega,hk,by rw[he];exact h4,fun i hi hp=> ?_⟩
  by_cases e:i=k
  ·rw[e];exact .inr ⟨rfl,Nat.le_refl _⟩
  ·rcases h5 i (by omega) hp with h7 | h7
   ·left;rw[he];exact h7
   ·right;exact⟨by rw[he];exact h7.1,by omega⟩
theorem Found.stay(h:Found T s k row K ls)(hk:0<T.A k s){r:Nat}(hr:row=(r:Int))(he:T.A r T.n/T.A r s<T.A k T.n/T.A k s∨(T.A r T.n/T.A r s=T.A k T.n/T.A k s∧T.B r≤T.B k)):Found T s (k+1) row K ls:=by
 rcases h with ⟨h1,h2⟩ | ⟨r',h1,h2,h3,h4,h5⟩
 ·omega
 ·obtain rfl:r'=r:=by omega
  refine .inr ⟨r',h1,by omega,h3,h4,fun i hi hp=> ?_⟩
  by_cases e:i=k
  ·rw[e];exact he
  ·exact h5 i (by omega) hp
end
theorem Xj{H:Heap}{G:TG}{L:TL}{T0:ar}{N:Nat}{I:ar→Prop}(h:dG H G L T0)(hc:iZ H G L T0)(hI:I T0)(Xk:∀S r s,I S→S.pz L.u r s→I (S.pivot r s))(hinv:∀S,I S→S.WF∧S.j8∧Sz N S∧S.m=T0.m∧S.n=T0.n)
 (hN:(N:Int)≤137438953472) (hw:(L.w:Int)≤1000000) (hm:(T0.m:Int)≤1000000):
 Fn Tryz.prog 51 #[.pointer (some ⟨G.g,0,none⟩)] H (fun v H'=>∃T,I T∧dG H' G L T∧iZ H' G L T∧Heap.le (rem H G.gs) (rem H' G.gs)∧((v = .int .i64 (-1)∧∀j,j<L.u→0≤T.c j)∨∃s:Nat,v = .int .i64 (s:Int)∧s<L.u∧T.c s<0∧∀i,i<T.m→T.A i s≤0)):=by
 have mU:=h.uw;refine aZ (args:=[_]) Tryz.func51 rfl rfl Tryz.ntmps51 rfl rfl fun w0=> ?_;refine aj [0] rfl ?_;refine ag (ab 1 rfl (ae [0] ?_));refine aG (Kj (γ:=ar) (ar.Step L.u) (fun(T:ar)=>put (emp) 0 (.val (.pointer (some ⟨G.g,0,none⟩)))) (fun(T:ar) H'=>dG H' G L T∧iZ H' G L T∧I T∧Heap.le (rem H G.gs) (rem H' G.gs)) (T0) ((by obtain⟨h1,h2,_⟩:=hinv T0 hI;exact ar.PN h1 h2 (by rw[h.n];exact mU))) au (⟨h,hc,hI,.refl _⟩) ?_);rintro T H1 ⟨h1,iF,Hi,fm⟩;obtain⟨PM,Bt,cQ,Xl,Qe⟩:=hinv T Hi;have hTw:T.n=L.w:=h1.n
 have agb:(T.m:Int)≤1000000:=by rw[Xl];exact hm
 refine aG (ag (ab 1 rfl (ae [0,3] ?_)));refine kI (fun(k:Nat)=>put (put (emp) 0 (.val (.pointer (some ⟨G.g,0,none⟩)))) 3 (.val (.int .i64 (k:Int)))) (fun(k:Nat) H'=>Kept G.gs H1 H'∧((k=L.u∧∀j,j<L.u→0≤T.c j)∨(k<L.u∧T.c k<0∧∀j,j<k→0≤T.c j))) ?_ ?_
 ·
  refine aG (gK (fun(k:Nat)=>L.u-k) (fun(k:Nat)=>put (put (emp) 0 (.val (.pointer (some ⟨G.g,0,none⟩)))) 3 (.val (.int .i64 (k:Int)))) (fun(k:Nat) H'=>Kept G.gs H1 H'∧k≤L.u∧∀j,j<k→0≤T.c j) 0 (⟨.refl _ _,Nat.zero_le _,fun j hj=>by omega⟩) au ?_);rintro k H2 ⟨fO,LF,tn⟩;have h2:=h1.kept fO;have nz:=iF.kept fO;refine aq ?_
  by_cases bL:k<L.u
  ·
   obtain⟨gc,cc,G6,bm,BN⟩:=id nz;obtain⟨xc,nc,dc,bc,om,yI,tP⟩:=BN.rd (dM (show k<L.w+1 by omega))
   have pC:cell H2 ((⟨G.g,0,none⟩:Addr).add 7)=some (.slice (some ⟨gc,0,none⟩) (L.w+1) cc):=by rw[←bm];exact h2.cell rfl
   have Qg:=cQ.c k (by omega);refine ag (ab 3 rfl (aV ah rfl rfl rfl (aT ah rfl rfl rfl (h2.cell rfl) (aJ true rfl rfl (jS (by omega)) (ab 3 rfl (aV ah rfl rfl rfl (aT ah rfl rfl rfl (pC) (ab 1 rfl (ck (vs:=[.int .i64 nc,.int .i64 dc,.pointer bc]) ah rfl rfl rfl rfl om rfl (by decide) tP (by omega) (by omega) fun _=>(aF rfl rfl (Fn.mg h2.ne (tK yI (by omega))) ?_))))))))));rintro v3 H3 ⟨dy,gN,rfl⟩;refine ab 2 rfl (ae [0,3,25] ?_);refine aD rfl (fun hb=> ?_) (fun hb=> ?_)
   ·
    have hb:0≤T.c k:=G8.1 (by simpa using hb);refine aA (aj [0,3] rfl ?_);refine aG (aC rfl (ab 1 rfl (aH rfl rfl ⟨by omega,by omega⟩ (ab 1 rfl (az ?_)))));exact⟨k+1,by omega,au,fO.trans dy,by omega,fun j hj=>by by_cases e:j=k;(rw[e];exact hb);exact tn j (by omega)⟩
   have hb:T.c k<0:=LD.1 (by simpa using hb);refine aW ?_;exact⟨k,au,fO.trans dy,.inr ⟨bL,hb,tn⟩⟩
  ·
   skip
   refine ag (ab 3 rfl (aV ah rfl rfl rfl (aT ah rfl rfl rfl (h2.cell rfl) (aJ false rfl rfl (iC (by omega)) (ab 11 rfl (ae [0,3,25] ?_))))));refine dR rfl (aW ?_);exact⟨k,au,fO,.inl ⟨by omega,fun j hj=>tn j (by omega)⟩⟩
 ·
  rintro k H3 ⟨dy,Xm⟩;have h3:=h1.kept dy;have vn:=iF.kept dy;refine aq (ag (ab 3 rfl (aV ah rfl rfl rfl (aT ah rfl rfl rfl (h3.cell rfl) (ab 1 rfl (ae [0,3,33] ?_))))));refine aD rfl (fun hb=> ?_) (fun hb=> ?_)
  ·
   have hb:k=L.u:=by simp at hb;omega
   have iU:∀j,j<L.u→0≤T.c j:=by
    rcases Xm with h5 | h5
    ·exact h5.2
    ·omega
   refine ag (ab 1 rfl (ae [2] ?_));refine aE ⟨.inr rfl,_,.tmp rfl (.nil),?_⟩;exact⟨T,Hi,h3,vn,fm.trans dy.le,.inl ⟨rfl,iU⟩⟩
  have hb:k≠L.u:=by simp at hb;omega
  obtain⟨bL,gj,tn⟩:k<L.u∧T.c k<0∧∀j,j<k→0≤T.c j:=by
   rcases Xm with h5 | h5
   ·omega
   ·exact h5
  refine aA (aj [0,3] rfl ?_);refine ag (ab 1 rfl (ae [0,3,4] ?_));refine ag (bn fk rfl (ae [0,3,4,5] ?_));refine aq (ag (ab 2 rfl (aV ah rfl rfl rfl (aT ah rfl rfl rfl (h3.cell rfl) (ab 2 rfl (ae [0,3,4,5,37,38,39] ?_))))));refine aG (fG (fun(q:Nat)(row:Int)(ls:Int×Int×Option Addr)=>T.m-q) (fun(q:Nat)(row:Int)(ls:Int×Int×Option Addr)=>put (put (put (put (put (put (put (emp) 0 (.val (.pointer (some ⟨G.g,0,none⟩)))) 3 (.val (.int .i64 (k:Int)))) 4 (.val (.int .i64 row))) 5 (.box [.int .i64 ls.1,.int .i64 ls.2.1,.pointer ls.2.2])) 37 (.val (.slice G.Ar T.m G.cr))) 38 (.val (.int .i64 (T.m:Int)))) 39 (.val (.int .i64 (q:Int)))) (fun(q:Nat)(row:Int)(ls:Int×Int×Option Addr) H'=>Kept G.gs H3 H'∧q≤T.m∧Found T k q row (rem H' G.gs) [.int .i64 ls.1,.int .i64 ls.2.1,.pointer ls.2.2]) 0 (-1) (0,0,none) (⟨.refl _ _,Nat.zero_le _,.inl ⟨rfl,fun i hi=>by omega⟩⟩) au ?_);rintro q row ls H4 ⟨gp,tr,Hj⟩;have h4:=h3.kept gp;refine ag (ab 1 rfl (ae [0,3,4,5,37,38,39,40] ?_));refine aq (aD rfl (fun hb=> ?_) (fun hb=> ?_))
  ·
   have LG:q<T.m:=by simpa using hb
   obtain⟨pq,nu⟩:=h1.get LG;obtain⟨xs4,BM,l8⟩:=h4.rows;obtain⟨xk,nk,dk,bk,LA,GZ,LB⟩:=(h4.row q pq nu).rd (dM (show k<L.w+1 by omega));obtain⟨xw,nw,dw,bw,Ec,oR,Hk⟩:=(h4.row q pq nu).rd (dM (show L.w<L.w+1 by omega));have Qg:=cQ.A q LG k (by omega);have kH:=cQ.A q LG L.w (by omega);refine aA (aj [0,3,4,5,37,38,39] rfl ?_);refine aq (aG (ag (ab 1 rfl (aS ah rfl rfl rfl rfl rfl (BM.le (bt _ _)) (by rw[Int.toNat_natCast];exact l8 q pq nu) (by omega) (by omega) fun _=> ?_))));refine ab 2 rfl (ae [0,3,4,5,6,7,37,38,39] ?_);refine aq (ag (ab 2 rfl (ck (vs:=[.int .i64 nk,.int .i64 dk,.pointer bk]) ah rfl rfl rfl rfl LA rfl (by decide) (by rw[Int.toNat_natCast];exact LB) (by omega) (by omega) fun _=> ?_)));refine aF rfl rfl (Fn.mg h4.ne (tK GZ (by omega))) ?_;rintro v5 H5 ⟨mR,gq,rfl⟩;have h5:=h4.kept mR;refine ab 1 rfl (ae [0,3,4,5,6,7,37,38,39,49] ?_);refine aD rfl (fun hb=> ?_) (fun hb=> ?_)
   ·
    have hb:T.A q k≤0:=Qd.1 (by simpa using hb);refine aW (aj [0,3,4,5,37,38,39] rfl ?_);refine aC rfl (aH rfl rfl ⟨by omega,by omega⟩ (ab 1 rfl (az ?_)));exact⟨q+1,row,ls,by omega,au,gp.trans mR,by omega,(Hj.le mR.le).skip hb⟩
   have wV:0<T.A q k:=by
    have:¬ik (T.A q k)≤0:=by simpa using hb
    rw[Qd]at this;grind
   refine aA (aj [0,3,4,5,6,7,37,38,39] rfl ?_);refine bP .bJ [0,1,2,3,4,5,6,7,8,9,10,11,12,13] follows (by kernel_rfl) ?_;refine ab 3 rfl (aV ah rfl rfl rfl (aT ah rfl rfl rfl (h5.ja) (ck (vs:=[.int .i64 nw,.int .i64 dw,.pointer bw]) ah rfl rfl rfl rfl (Ec.le gq) rfl (by decide) (by rw[Int.toNat_natCast];exact Hk) (by omega) (by omega) fun _=> ?_)));refine ab 2 rfl (ck (vs:=[.int .i64 nk,.int .i64 dk,.pointer bk]) ah rfl rfl rfl rfl (LA.le gq) rfl (by decide) (by rw[Int.toNat_natCast];exact LB) (by omega) (by omega) fun _=> ?_);refine a8 rfl rfl (Fn.lK h5.ne (WX (N:=N) (oR.le mR.le) (GZ.le mR.le) kH Qg (by omega) (by grind))) (fun _ _ h=>by first | exact h.le | exact h.1) ?_;rintro v6 H6 ⟨qW,sj,nq,dq,bq,rfl,Qh⟩;have h6:=h5.kept qW;have hsq:=Eb (T.A q L.w) (T.A q k);rw[←hTw]at Qh hsq kH;have Xn:=(Hj.le mR.le).le qW.le;refine bn fk rfl ?_;obtain⟨ti,ak,al⟩:=cJ;refine aI (.inl ⟨rfl,rfl⟩) rfl rfl rfl ak al rfl rfl rfl (ae [0,3,4,5,6,8,37,38,39] ?_);refine aG (kI (fun(bz:Bool)=>put (put (put (put (put (put (put (put (put (put (emp) 0 (.val (.pointer (some ⟨G.g,0,none⟩)))) 3 (.val (.int .i64 (k:Int)))) 4 (.val (.int .i64 row))) 5 (.box [.int .i64 ls.1,.int .i64 ls.2.1,.pointer ls.2.2])) 6 (.val (.int .i64 (q:Int)))) 8 (.box [.int .i64 nq,.int .i64 dq,.pointer bq])) 37 (.val (.slice G.Ar T.m G.cr))) 38 (.val (.int .i64 (T.m:Int)))) 39 (.val (.int .i64 (q:Int)))) 62 (.val (.bool bz))) (fun(bz:Bool) H'=>Kept G.gs H6 H'∧(bz=true→row = -1∨∀r:Nat,row=(r:Int)→T.A q T.n/T.A q k<T.A r T.n/T.A r k)∧(bz=false→∃r:Nat,row=(r:Int)∧r<q∧¬T.A q T.n/T.A q k<T.A r T.n/T.A r k)) ?_ ?_)
   ·
    refine ag (ab 3 rfl (ae [0,3,4,5,6,8,37,38,39,62] ?_));refine aD rfl (fun hb=> ?_) (fun hb=> ?_)
    ·
     have iS:row<0:=by simpa using hb
     refine aA ?_;exact⟨_,au,.refl _ _,fun _=> .inl (by rcases Hj with hx | hx;exact hx.1;obtain⟨r,hr,_⟩:=hx;omega),fun e=>by rw[hb]at e;cases e⟩
    have iS:¬row<0:=by simpa using hb
    obtain⟨r1,Ed,Xo,agc,vy,_⟩:∃r:Nat,row=(r:Int)∧r<q∧0<T.A r k∧bS (rem H6 G.gs) [.int .i64 ls.1,.int .i64 ls.2.1,.pointer ls.2.2] (T.A r T.n/T.A r k)∧True:=by
     rcases Xn with hx | ⟨r,h1,h2,h3,h4,_⟩
     ·omega
     ·exact⟨r,h1,h2,h3,h4,trivial⟩
    have Ee:=Eb (T.A r1 T.n) (T.A r1 k);have lE:=cQ.A r1 (by omega) T.n (by omega);have oc:=cQ.A r1 (by omega) k (by omega);refine aC rfl (ab 2 rfl (aF rfl rfl (Fn.lK h6.ne (DY (N:=2*N) Qh vy (by omega) (by omega) (by omega))) ?_));rintro va Ha ⟨oo,jC,na,da,ba,rfl,zl⟩;have hss:=tC (T.A q T.n/T.A q k) (T.A r1 T.n/T.A r1 k);refine aF rfl rfl (Fn.mg (oo.ne h6.ne) (tK zl (by omega))) ?_;rintro vb Hb ⟨qX,eF,rfl⟩;refine ab 2 rfl (az ?_);exact⟨_,au,oo.trans qX,fun e=> .inr fun r hr=>(by have:=LD.1 (of_decide_eq_true e);obtain rfl:r=r1:=(by omega);grind),fun e=>⟨r1,Ed,Xo,fun bL=>of_decide_eq_false e (LD.2 (by grind))⟩⟩
   rintro bz H7 ⟨tQ,fa,iS⟩;have h7:=h6.kept tQ;have LH:=((gp.trans mR).trans qW).trans tQ;have Hl:=Xn.le tQ.le;have Qj:=Qh.le tQ.le;refine aD rfl (fun hb=> ?_) (fun hb=> ?_)
   ·
    skip
    refine ep .bJ [0,1,2,3] follows (by kernel_rfl) ?_;refine vr 3 ?_;obtain⟨ti,ak,al⟩:=cJ;refine aI (.inl ⟨rfl,rfl⟩) rfl rfl rfl ak al rfl rfl rfl (az (aj [0,3,4,5,37,38,39] rfl ?_));refine aC rfl (aH rfl rfl ⟨by omega,by omega⟩ (ab 1 rfl (az ?_)));exact⟨q+1,(q:Int),(nq,dq,bq),by omega,au,LH,by omega,Hl.new wV Qj (fa hb)⟩
   obtain⟨r1,Ed,Xo,ams⟩:=iS hb
   obtain⟨agc,vy⟩:0<T.A r1 k∧bS (rem H7 G.gs) [.int .i64 ls.1,.int .i64 ls.2.1,.pointer ls.2.2] (T.A r1 T.n/T.A r1 k):=by
    rcases Hl with hx | ⟨r,h1,h2,h3,h4,_⟩
    ·omega
    ·
     obtain rfl:r=r1:=by omega
     exact⟨h3,h4⟩
   have Ee:=Eb (T.A r1 T.n) (T.A r1 k);have lE:=cQ.A r1 (by omega) T.n (by omega);have oc:=cQ.A r1 (by omega) k (by omega);have hss:=tC (T.A q T.n/T.A q k) (T.A r1 T.n/T.A r1 k)
   obtain⟨gb,cb,sz,lH,dr,bo⟩:∃gb cb sz,G.bb = [gb]∧G.bv = .slice (some ⟨gb,0,none⟩) T.m cb∧H7 gb=some ⟨eL T.B T.m,sz,3,true⟩:=by
    rcases h7.basis with h8 | h8
    ·
     have:=h8.1
     omega
    ·exact h8
   have LC:gb∈G.gs:=TG.mT (by rw[lH];exact List.mem_singleton.2 rfl)
   by_cases heq:T.A q T.n/T.A q k=T.A r1 T.n/T.A r1 k
   ·
    skip
    refine bP .bJ [0,1,2,3,4,5,6,7,8,9,10,11,12,13,14,15,16,17,18,19,20,21,22] follows (by kernel_rfl) ?_;refine ab 2 rfl (a8 rfl rfl (Fn.lK h7.ne (DY (N:=2*N) Qj vy (by omega) (by omega) (by omega))) (fun _ _ h=>by first | exact h.le | exact h.1) ?_);rintro va Ha ⟨oo,jC,na,da,ba,rfl,zl⟩;refine a8 rfl rfl (Fn.mg (oo.ne h7.ne) (tK zl (by omega))) (fun _ _ h=>by first | exact h.le | exact h.1) ?_;rintro vb Hb ⟨qX,eF,rfl⟩;have h8:=(h7.kept oo).kept qX
    have zq:cell Hb ((⟨G.g,0,none⟩:Addr).add 8)=some (.slice (some ⟨gb,0,none⟩) T.m cb):=by rw[←dr];exact h8.cell rfl
    have fY:Rd Hb (some ⟨gb,0,none⟩) (eL T.B T.m):=dW (by rw[qX.same gb LC,oo.same gb LC];exact bo);refine aJ true rfl rfl (jR (zp.2 (by rw[heq];grind))) ?_;refine ab 3 rfl (aV ah rfl rfl rfl (aT ah rfl rfl rfl (zq) (ab 1 rfl (aS ah rfl rfl rfl rfl rfl (fY) (by rw[Int.toNat_natCast];exact gO LG) (by omega) (by omega) fun _=> ?_))));refine ab 2 rfl (aV ah rfl rfl rfl (aT ah rfl rfl rfl (zq) (ab 1 rfl (aS ah rfl rfl rfl rfl rfl (fY) (by rw[Ed,Int.toNat_natCast];exact gO (by omega)) (by omega) (by omega) fun _=> ?_))));refine ab 3 rfl (ae [0,3,4,5,6,37,38,39,72] ?_);refine aD rfl (fun hb=> ?_) (fun hb=> ?_)
    ·
     have hB:T.B q<T.B r1:=by simp at hb;omega
     refine aC rfl (ab 2 rfl (az (aj [0,3,4,5,37,38,39] rfl ?_)));refine aC rfl (aH rfl rfl ⟨by omega,by omega⟩ (ab 1 rfl (az ?_)));exact⟨q+1,(q:Int),ls,by omega,au,(LH.trans oo).trans qX,by omega,((Hl.le oo.le).le qX.le).tie wV Ed heq hB⟩
    have hB:T.B r1≤T.B q:=by simp at hb;omega
    refine aA (aj [0,3,4,5,37,38,39] rfl ?_);refine aC rfl (aH rfl rfl ⟨by omega,by omega⟩ (ab 1 rfl (az ?_)));exact⟨q+1,row,ls,by omega,au,(LH.trans oo).trans qX,by omega,((Hl.le oo.le).le qX.le).stay wV Ed (.inr ⟨heq.symm,hB⟩)⟩
   skip
   refine bP .bJ [0,1,2,3,4,5,6,7,8,9,10,11,12,13,14,15,16,17,18,19,20,21,22] follows (by kernel_rfl) ?_;refine ab 2 rfl (a8 rfl rfl (Fn.lK h7.ne (DY (N:=2*N) Qj vy (by omega) (by omega) (by omega))) (fun _ _ h=>by first | exact h.le | exact h.1) ?_);rintro va Ha ⟨oo,jC,na,da,ba,rfl,zl⟩;refine a8 rfl rfl (Fn.mg (oo.ne h7.ne) (tK zl (by omega))) (fun _ _ h=>by first | exact h.le | exact h.1) ?_;rintro vb Hb ⟨qX,eF,rfl⟩;refine aJ false rfl rfl (lD (fun e=>heq (by have:=zp.1 e;grind))) ?_;refine ab 18 rfl (ae [0,3,4,5,6,37,38,39,72] ?_);refine dR rfl (aA (aj [0,3,4,5,37,38,39] rfl ?_));refine aC rfl (aH rfl rfl ⟨by omega,by omega⟩ (ab 1 rfl (az ?_)));exact⟨q+1,row,ls,by omega,au,(LH.trans oo).trans qX,by omega,((Hl.le oo.le).le qX.le).stay wV Ed (.inl (by grind))⟩
  have hb:T.m≤q:=by simpa using hb
  obtain rfl:q=T.m:=by omega
  have Xp:=dy.trans gp;refine aW (aj [0,3,4] rfl ?_);refine aq (ag (ab 2 rfl (ae [0,3,4,98] ?_)));refine aD rfl (fun hb=> ?_) (fun hb=> ?_)
  ·
   have iS:row<0:=by simpa using hb
   have iU:∀i,i<T.m→T.A i k≤0:=by
    rcases Hj with hx | ⟨r,hr,_⟩
    ·exact hx.2
    ·omega
   refine ag (ab 2 rfl (ae [2] ?_));refine aE ⟨.inr rfl,_,.tmp rfl (.nil),?_⟩;exact⟨T,Hi,h4,vn.kept gp,fm.trans Xp.le,.inr ⟨k,rfl,bL,gj,iU⟩⟩
  have iS:¬row<0:=by simpa using hb
  obtain⟨rr,nE,kf,mh,nF⟩:∃r:Nat,row=(r:Int)∧r<T.m∧0<T.A r k∧∀i,i<T.m→0<T.A i k→T.A r T.n/T.A r k<T.A i T.n/T.A i k∨(T.A r T.n/T.A r k=T.A i T.n/T.A i k∧T.B r≤T.B i):=by
   rcases Hj with hx | ⟨r,h1,h2,h3,_,h5⟩
   ·omega
   ·exact⟨r,h1,h2,h3,h5⟩
  have kL:T.pz L.u rr k:=⟨bL,gj,tn,kf,mh,nF⟩;obtain⟨_,_,agd,_,_⟩:=hinv _ (Xk _ _ _ Hi kL);refine aA (aj [0,3,4] rfl ?_);refine aC rfl (ab 3 rfl (aF rfl rfl (by rw[nE];exact Xf (N:=N) h4 (vn.kept gp) kf (by omega) (by grind) cQ agd (by omega) hw agb) ?_));rintro v9 H9 ⟨h9,Hm,Hn⟩;refine az ?_;exact⟨T.pivot rr k,⟨rr,k,kL,rfl⟩,au,h9,Hm,Xk _ _ _ Hi kL,(fm.trans Xp.le).trans Hn⟩
end Go.aw
namespace Go.aw
open Go.Proofs Num Lp
structure Ho(K H:Heap)(G:TG)(L:TL)(T:ar):Prop where
 kh:Heap.le K H
 cell:∀(k:Nat)(v:Value),(G.cells L.w L.u T.m)[k]? = some v→aw.cell H ((⟨G.g,0,none⟩:Addr).add k)=some v
 rows:∃xs,Rd H G.Ar xs∧∀i,i<T.m→∃p:Nat×Nat,xs[i]? = some (.slice (some ⟨p.1,0,none⟩) (L.w+1) p.2)∧lJ K H p.1 (aL (T.A i) (L.w+1))
 basis:T.m=0∨∃gb cb,G.bv = .slice (some ⟨gb,0,none⟩) T.m cb∧Rd H (some ⟨gb,0,none⟩) (eL T.B T.m)
 Xq:T.m=0→∃A c,G.bv = .slice A 0 c
 plus:aR vw 1 H G.pv L.plus
 minus:aR BH 1 H G.mv L.minus
 ku:aR vw 1 H G.uv L.ku
 ke:aR bS 3 K G.sv L.ke
theorem dG.w{H0 K H:Heap}{G:TG}{L:TL}{T:ar}(h:dG H0 G L T)(hle:Heap.le (rem H0 G.gs) K)(hk:Heap.le K H)(hs:∀q,q∈G.gs→H q=H0 q):Ho K H G L T where
 kh:=hk
 cell:=fun k v hv=>by
  have:=hs _ G.se
  simp[aw.cell,iX,this,h.st,hv]
 rows:=by
  obtain⟨xs,h1,h2⟩:=h.rows
  refine⟨xs,h1.le (hle.trans hk),fun i hi=> ?_⟩
  obtain⟨p,hp⟩:=h.get hi
  exact⟨p,h2 i p hp,(h.row i p hp).le hle (hs _ (TG.gP hp))⟩
 basis:=by
  rcases h.basis with h1 | ⟨gb,cb,sz,h1,h2,h3⟩
  ·exact .inl h1.1
  ·exact .inr ⟨gb,cb,h2,dW (by rw[hs _ (TG.mT (by rw[h1];exact List.mem_singleton.2 rfl))];exact h3)⟩
 Xq:=fun hm=>by
  rcases h.basis with h1 | ⟨gb,cb,sz,h1,h2,h3⟩
  ·exact⟨none,0,h1.2.2⟩
  ·exact⟨_,cb,by rw[h2,hm]⟩
 plus:=(h.plus.le mS hle).le mS hk
 minus:=(h.minus.le vx hle).le vx hk
 ku:=(h.ku.le mS hle).le mS hk
 ke:=h.ke.le jr hle
theorem dG.self{H:Heap}{G:TG}{L:TL}{T:ar}(h:dG H G L T):Ho (rem H G.gs) H G L T:=h.w (.refl _) (bt _ _) (fun _ _=>rfl)
theorem Ho.bv{K H:Heap}{G:TG}{L:TL}{T:ar}(h:Ho K H G L T):∃A c,G.bv = .slice A T.m c∧Rd H A (eL T.B T.m):=by
 rcases h.basis with h1 | ⟨gb,cb,h1,h2⟩
 ·obtain⟨A,c,h2⟩:=h.Xq h1
  refine⟨A,c,by rw[h1];exact h2,fun i v hv=> ?_⟩
  rw[h1]at hv
  simp[eL]at hv
 ·exact⟨_,cb,h1,h2⟩
theorem aR.one{α:Type}{P:Heap→List Value→α→Prop}{H:Heap}{v:Value}{l:List α}(h:aR P 1 H v l):∃A c xs,v = .slice A l.length c∧Rd H A xs∧∀(i:Nat)(a:α),l[i]? = some a→∃u,xs[i]? = some u∧P H [u] a:=by
 obtain⟨A,c,xs,h1,_,h3,h4⟩:=h
 exact⟨A,c,xs,h1,h3,fun i a ha=>h4.one ha⟩
theorem aR.num{H:Heap}{v:Value}{l:List Rat}(h:aR bS 3 H v l):∃A c xs,v = .slice A l.length c∧Rd H A xs∧∀(i:Nat)(q:Rat),l[i]? = some q→∃n d b,bS H [.int .i64 n,.int .i64 d,.pointer b] q∧∀(j:Nat)(u:Value),[.int .i64 n,.int .i64 d,.pointer b][j]? = some u→xs[i*3+j]? = some u:=by
 obtain⟨A,c,xs,h1,_,h3,h4⟩:=h
 refine⟨A,c,xs,h1,h3,fun i q hq=> ?_⟩
 obtain⟨vs,_,h5,h6⟩:=h4.get hq
 obtain⟨n,d,b,rfl⟩:=h5.cells
 exact⟨n,d,b,h5,h6⟩
structure fy(gs:List Nat)(H0 H:Heap)(z:Nat)(xs:List Value)(sz e:Nat):Prop where
 aB:H z=some ⟨xs,sz,e,true⟩
 zn:H0 z=none
 zg:¬z∈gs
 le:Heap.le (rem H0 gs) (rem H (z::gs))
 same:∀q,q∈gs→H q=H0 q
section
variable {gs:List Nat} {H0 H H':Heap} {z:Nat} {xs qz:List Value} {sz e:Nat}
theorem fy.new(hn:∀q,q∈gs→H0 q≠none)(hz:H0 z=none):fy gs H0 (ins H0 z ⟨xs,sz,e,true⟩) z xs sz e:=
 ⟨bF _ _ _,hz,fun h=>hn z h hz,by rw[tA _ hz];exact .refl _,fun q hq=>bg _ _ (fun e=>hn q hq (by rw[e];exact hz))⟩
theorem fy.ne(h:fy gs H0 H z xs sz e)(hn:∀q,q∈gs→H0 q≠none):∀q,q∈z::gs→H q≠none:=fun q hq=>by
 rcases List.mem_cons.1 hq with rfl | hq
 ·rw[h.aB];simp
 ·rw[h.same q hq];exact hn q hq
theorem fy.kept(h:fy gs H0 H z xs sz e)(k:Kept (z::gs) H H'):fy gs H0 H' z xs sz e:=
 ⟨by rw[k.same z (List.mem_cons_self ..)];exact h.aB,h.zn,h.zg,h.le.trans k.le,fun q hq=>(k.same q (List.mem_cons_of_mem _ hq)).trans (h.same q hq)⟩
theorem fy.set(h:fy gs H0 H z xs sz e){en:Ent}(he:en=⟨qz,sz,e,true⟩):fy gs H0 (ins H z en) z qz sz e:=
 ⟨by rw[bF,he],h.zn,h.zg,by rw[cK _ (List.mem_cons_self ..)];exact h.le,fun q hq=>by rw[bg _ _ (fun(e':q=z)=>h.zg (by rw[←e'];exact hq))];exact h.same q hq⟩
theorem fy.hle(h:fy gs H0 H z xs sz e):Heap.le H0 H:=fun g en hg=>by
 by_cases hm:g∈gs
 ·exact⟨en,by rw[h.same g hm];exact hg,.refl en⟩
 ·obtain⟨e',h1,h2⟩:=h.le g en (by rw[bM hm];exact hg)
  obtain⟨Og,h3,h4⟩:=bt H (z::gs) g e' h1
  exact⟨Og,h3,h2.trans h4⟩
theorem fy.done(h:fy gs H0 H z xs sz e):Kept gs H0 H∧Heap.le (rem H (z::gs)) (rem H gs):=⟨⟨h.le.trans (GB H z gs),h.same⟩,GB H z gs⟩
theorem fy.rd(h:fy gs H0 H z xs sz e):Rd (rem H gs) (some ⟨z,0,none⟩) xs:=fun i v hv=>⟨_,rfl,by simp[aw.cell,iX,bM h.zg,h.aB,hv]⟩
theorem fy.tab{H:Heap}{G:TG}{L:TL}{T:ar}(ht:dG H0 G L T)(h:fy G.gs H0 H z xs sz e):Ho (rem H (z::G.gs)) H G L T:=ht.w h.le (bt _ _) h.same
end
structure Ef{α:Type}(P:Heap→List Value→α→Prop)(s:Nat)(gs:List Nat)(H:Heap)(l:List α)(v:Value)(H':Heap):Prop where
 kept:Kept gs H H'
 le:Heap.le H H'
 val:aR P s (rem H' gs) v l
theorem Fn.LI{α:Type}{P:Heap→List Value→α→Prop}{s:Nat}{Q:Program}{f:FuncId}{args:Array Value}{H:Heap}{gs:List Nat}{l:List α}(jT:∀g,g∈gs→H g≠none)(h:Fn Q f args (rem H gs) (PY P s (rem H gs) l)):Fn Q f args H (Ef P s gs H l):=
 (Fn.frame jT h).mono fun v H' hf=>⟨.of hf fun v K hp=>hp.1,hf.le fun v K hp=>hp.1,hf.post.2⟩
structure FrZ(gs:List Nat)(H:Heap)(n:Nat)(v:Value)(H':Heap):Prop where
 le:Heap.le H H'
 val:∃z xs,v = .slice (some ⟨z,0,none⟩) n n∧fy gs H H' z xs (n*3) 90∧∀K:Heap,bE (bS K) 3 xs (aL (fun _=>0) n)
theorem age(n:Nat):aL (fun _=>0) n=List.replicate n 0:=by
 apply List.ext_getElem?
 intro i
 by_cases h:i<n
 ·rw[dM h,List.getElem?_replicate,if_pos h]
 ·rw[List.getElem?_eq_none (by rw[bh];omega),List.getElem?_eq_none (by rw[List.length_replicate];omega)]
theorem Hp{H:Heap}{gs:List Nat}(jT:∀g,g∈gs→H g≠none){n:Nat}(hn:(n:Int)≤8796093022208):Fn Tryz.prog 56 #[.int .i64 (n:Int)] H (FrZ gs H n):=
 (afM hn).mono fun v H' ⟨g,xs,h1,h2,h3,h4⟩=>by
  rw[List.length_replicate]at h2 h3
  refine⟨by rw[h3];exact Heap.bC _ h1,g,xs,h2,by rw[h3];exact .new jT h1,fun K=>by rw[age];exact h4 K⟩
def bY(f:Nat→Rat)(k:Nat)(q:Rat)(j:Nat):Rat:=if j=k then q else f j
theorem Qk{f:Nat→Rat}{n k:Nat}{q:Rat}:(aL f n).set k q=aL (bY f k q) n:=by
 apply List.ext_getElem?
 intro j
 by_cases hj:j<n
 ·by_cases e:j=k
  ·subst e
   rw[List.getElem?_set_self (by rw[bh];exact hj),dM hj];simp[bY]
  ·rw[List.getElem?_set_ne (fun e'=>e e'.symm),dM hj,dM hj];simp[bY,e]
 ·rw[List.getElem?_eq_none (by rw[List.length_set,bh];omega),List.getElem?_eq_none (by rw[bh];omega)]
theorem sk{K:Heap}{xs vs:List Value}{f:Nat→Rat}{n k:Nat}{q:Rat}(h:bE (bS K) 3 xs (aL f n))(hk:k<n)(hv:bS K vs q):bE (bS K) 3 (aM xs (k*3) vs) (aL (bY f k q) n):=by
 rw[←Qk];exact h.set (by rw[bh];exact hk) hv hv.len
theorem pD{xs vs:List Value}{s e k sz:Nat}:({(⟨xs,s,e,true⟩:Ent)with xs:=aM xs (0+k*sz) vs}:Ent)=⟨aM xs (k*sz) vs,s,e,true⟩:=by rw[Nat.zero_add]
end Go.aw
namespace Go.aw
open Go.Proofs Num Lp
theorem agf{u k:Nat}(h:u≤k)(j:Nat):ar.jG u (k+1) j=bY (ar.jG u k) k 1 j:=by
 unfold bY ar.jG
 by_cases e:j=k
 ·rw[if_pos (by omega),if_pos e]
 ·rw[if_neg e]
  by_cases e2:u≤j∧j<k
  ·rw[if_pos (by omega)];simp only[e2,and_self,if_true]
  ·rw[if_neg (by omega)];simp only[e2,if_false]
theorem Xr{H:Heap}{G:TG}{L:TL}{T:ar}(h:dG H G L T)(hc:iZ H G L T)(hs:(aP (T.c L.w):Int)≤1099511627776):
 Fn Tryz.prog 52 #[.pointer (some ⟨G.g,0,none⟩)] H (W8 G.gs H (-(T.c L.w))):=by
 obtain⟨gc,cc,G6,bm,BN⟩:=id hc
 obtain⟨xc,nc,dc,bc,om,yI,tP⟩:=BN.rd (dM (show L.w<L.w+1 by omega))
 have pC:cell H ((⟨G.g,0,none⟩:Addr).add 7)=some (.slice (some ⟨gc,0,none⟩) (L.w+1) cc):=by rw[←bm];exact h.cell rfl
 refine aZ (args:=[_]) Tryz.func52 rfl rfl Tryz.ntmps52 rfl rfl fun w0=> ?_;refine aj [0] rfl ?_;refine ag (bn fk rfl (ae [0,2] ?_));refine bP .bJ [0,1,2,3,4,5,6,7,8,9,10,11] follows (by kernel_rfl) ?_;refine ab 2 rfl (aV ah rfl rfl rfl (aT ah rfl rfl rfl (pC) (ab 2 rfl (aV ah rfl rfl rfl (aT ah rfl rfl rfl (h.ja) (ck (vs:=[.int .i64 nc,.int .i64 dc,.pointer bc]) ah rfl rfl rfl rfl om rfl (by decide) (by rw[Int.toNat_natCast];exact tP) (by omega) (by omega) fun _=> ?_))))));refine a8 rfl rfl (Fn.lK h.ne (DS yI hs)) (fun _ _ h=>by first | exact h.le | exact h.1) ?_;rintro v1 H1 ⟨gI,cH,n1,d1,b1,rfl,cC⟩;obtain⟨ti,ak,al⟩:=cJ;refine aI (.inl ⟨rfl,rfl⟩) rfl rfl rfl ak al rfl rfl rfl (ae [2] ?_);obtain⟨bQ,aN,aO⟩:=cJ;refine aE ⟨.inr rfl,_,.agg rfl Tryz.underlying90 aN aO (.nil),?_⟩;exact⟨gI,cH,n1,d1,b1,rfl,cC⟩
theorem Xs{H:Heap}{G:TG}{L:TL}{T:ar}(h:dG H G L T)(hw:(L.w:Int)≤1000000):
 Fn Tryz.prog 50 #[.pointer (some ⟨G.g,0,none⟩)] H (Ef bS 3 G.gs H (aL (ar.jG L.u L.w) L.w)):=by
 have mU:=h.uw;refine aZ (args:=[_]) Tryz.func50 rfl rfl Tryz.ntmps50 rfl rfl fun w0=> ?_;refine aj [0] rfl ?_;refine ag (ab 1 rfl (ae [0] ?_));refine ag (ab 2 rfl (aV ah rfl rfl rfl (aT ah rfl rfl rfl (h.ja) (aF rfl rfl (Hp h.ne (by omega)) ?_))));rintro v1 H1 ⟨cH,z,xs,rfl,kN,iI⟩;have gA:=kN.tab h;refine ab 1 rfl (ae [0,3] ?_);refine aq (ag (ab 2 rfl (aV ah rfl rfl rfl (aT ah rfl rfl rfl (gA.cell 1 _ rfl) (ab 1 rfl (ae [0,3,4] ?_))))));refine aG (ij (fun(k:Nat)(xs:List Value)=>L.w-k) (fun(k:Nat)(xs:List Value)=>put (put (put (emp) 0 (.val (.pointer (some ⟨G.g,0,none⟩)))) 3 (.val (.slice (some ⟨z,0,none⟩) L.w L.w))) 4 (.val (.int .i64 (k:Int)))) (fun(k:Nat)(xs:List Value) H'=>fy G.gs H H' z xs (L.w*3) 90∧(∀K:Heap,bE (bS K) 3 xs (aL (ar.jG L.u k) L.w))∧L.u≤k∧k≤L.w) L.u xs (⟨kN,fun K=>by rw[lI (g:=fun _=>0) (fun j _=>by unfold ar.jG;rw[if_neg (by omega)])];exact iI K,Nat.le_refl _,mU⟩) au ?_);rintro k xs H2 ⟨eM,lq,LJ,hkw⟩;have l6:=eM.tab h;have cP:=(lq H).len;rw[bh]at cP;refine aq (ag (ab 3 rfl (aV ah rfl rfl rfl ?_)))
 refine aT ah rfl rfl rfl (by have:=l6.cell 0 _ rfl;rwa [iX]at this) ?_;refine ab 1 rfl (ae [0,3,4,19] ?_);refine aD rfl (fun hb=> ?_) (fun hb=> ?_)
 ·
  have hb:k<L.w:=by simpa using hb
  refine aA (aj [0,3,4] rfl ?_);refine aq (aG (aC rfl (ab 2 rfl (aF rfl rfl (wS) ?_))));rintro v3 H3 ⟨e3,rfl⟩;rw[e3];obtain⟨ti,ak,al⟩:=cJ;refine cV (.inl rfl) ah rfl rfl rfl (by omega) (by omega) (eM.aB) rfl (by show 0+L.w*3≤xs.length;omega) ak al (fun _=>rfl) rfl rfl rfl fun _=> ?_;refine az (aj [0,3,4] rfl ?_);refine aC rfl (ab 1 rfl (aH rfl rfl ⟨by omega,by omega⟩ (ab 1 rfl (az ?_))));exact⟨k+1,aM xs (k*3) [.int .i64 1,.int .i64 1,.pointer none],by omega,au,eM.set pD,fun K=>by rw[lI (g:=bY (ar.jG L.u k) k 1) (fun j _=>agf LJ j)];exact sk (lq K) hb (wR K (n:=1) (by decide) (by decide)),by omega,by omega⟩
 ·
  have hb:L.w≤k:=by simpa using hb
  obtain rfl:k=L.w:=by omega
  refine aW (aj [3] rfl ?_);refine ag (ab 2 rfl (ae [2] ?_));refine aE ⟨.inr rfl,_,.tmp rfl (.nil),?_⟩;exact⟨eM.done.1,eM.hle,some ⟨z,0,none⟩,L.w,xs,by rw[bh];rfl,by rw[bh];exact Nat.le_refl _,eM.rd,lq _⟩
theorem agh{H:Heap}{G:TG}{L:TL}{T0:ar}{N:Nat}{J:Nat→ar→Prop}(h:dG H G L T0)(hc:iZ H G L T0)(hJ:J 0 T0)(Xt:∀k S,J k S→k<S.m→(S.B k<L.u∨∀j,j<L.u→S.A k j=0)→J (k+1) S)
 (agi:∀k S s,J k S→k<S.m→L.u≤S.B k→s<L.u→S.A k s≠0→J (k+1) (S.pivot k s)) (hinv:∀k S,J k S→Sz N S∧S.m=T0.m∧S.n=T0.n) (hN:(N:Int)≤137438953472) (hw:(L.w:Int)≤1000000) (hm:(T0.m:Int)≤1000000):
 Fn Tryz.prog 55 #[.pointer (some ⟨G.g,0,none⟩)] H (fun _ H'=>∃T,J T0.m T∧dG H' G L T∧iZ H' G L T∧Heap.le (rem H G.gs) (rem H' G.gs)):=by
 have mU:=h.uw
 obtain⟨Ab,cb,dr,_⟩:=h.self.bv
 have zq:cell H ((⟨G.g,0,none⟩:Addr).add 8)=some (.slice Ab T0.m cb):=by rw[←dr];exact h.cell rfl
 refine aZ (args:=[_]) Tryz.func55 rfl rfl Tryz.ntmps55 rfl rfl fun w0=> ?_;refine aj [0] rfl ?_;refine ag (ab 2 rfl (aV ah rfl rfl rfl (aT ah rfl rfl rfl (zq) (ab 2 rfl (ae [0,8,9,10] ?_)))));refine aG (ij (fun(k:Nat)(T:ar)=>T0.m-k) (fun(k:Nat)(T:ar)=>put (put (put (put (emp) 0 (.val (.pointer (some ⟨G.g,0,none⟩)))) 8 (.val (.slice Ab T0.m cb))) 9 (.val (.int .i64 (T0.m:Int)))) 10 (.val (.int .i64 (k:Int)))) (fun(k:Nat)(T:ar) H'=>dG H' G L T∧iZ H' G L T∧J k T∧Heap.le (rem H G.gs) (rem H' G.gs)∧k≤T0.m) 0 T0 (⟨h,hc,hJ,.refl _,Nat.zero_le _⟩) au ?_);rintro k T H1 ⟨h1,iF,Hq,fm,gI⟩;obtain⟨cQ,Xl,Qe⟩:=hinv k T Hq;obtain⟨A2,c2,Hr,Gz⟩:=h1.self.bv;rw[dr]at Hr
 obtain⟨rfl,-,rfl⟩:Ab=A2∧T0.m=T.m∧cb=c2:=by simpa using Hr
 refine ag (ab 1 rfl (ae [0,8,9,10,11] ?_));refine aq (aD rfl (fun hb=> ?_) (fun hb=> ?_))
 ·
  have lM:k<T0.m:=by simpa using hb
  have BO:k<T.m:=by omega
  obtain⟨pk,qU⟩:=h1.get BO;refine aA (aj [0,8,9,10] rfl ?_);refine aq (aG (ag (ab 1 rfl (aS ah rfl rfl rfl rfl rfl (Gz) (by rw[Int.toNat_natCast];exact gO BO) (by omega) (by omega) fun _=> ?_))));refine ab 2 rfl (ae [0,2,3,8,9,10] ?_);refine aq (ag (ab 3 rfl (aV ah rfl rfl rfl (aT ah rfl rfl rfl (h1.cell rfl) (ab 1 rfl (ae [0,2,8,9,10,20] ?_))))));refine aD rfl (fun hb=> ?_) (fun hb=> ?_)
  ·
   have hb:T.B k<L.u:=by simp at hb;omega
   refine aW (aj [0,8,9,10] rfl ?_);refine aC rfl (aH rfl rfl ⟨by omega,by omega⟩ (ab 1 rfl (az ?_)));exact⟨k+1,T,by omega,au,h1,iF,Xt k T Hq BO (.inl hb),fm,by omega⟩
  ·
   have hBu:L.u≤T.B k:=by simp at hb;omega
   refine aA (aj [0,2,8,9,10] rfl ?_);refine ag (ab 2 rfl (aV ah rfl rfl rfl (aT ah rfl rfl rfl (h1.cell rfl) (ab 1 rfl (ae [0,2,8,9,10,24,25] ?_)))));refine aG (gK (fun(j:Nat)=>L.u-j) (fun(j:Nat)=>put (put (put (put (put (put (put (emp) 0 (.val (.pointer (some ⟨G.g,0,none⟩)))) 2 (.val (.int .i64 (k:Int)))) 8 (.val (.slice Ab T0.m cb))) 9 (.val (.int .i64 (T0.m:Int)))) 10 (.val (.int .i64 (k:Int)))) 24 (.val (.int .i64 (L.u:Int)))) 25 (.val (.int .i64 (j:Int)))) (fun(j:Nat) H'=>Kept G.gs H1 H'∧j≤L.u∧∀i,i<j→T.A k i=0) 0 (⟨.refl _ _,Nat.zero_le _,fun i hi=>by omega⟩) au ?_);rintro j H3 ⟨dy,hju,so⟩;have h3:=h1.kept dy;refine ag (ab 1 rfl (ae [0,2,8,9,10,24,25,26] ?_));refine aq (aD rfl (fun hb=> ?_) (fun hb=> ?_))
   ·
    have Xu:j<L.u:=by simpa using hb
    obtain⟨Qm,xe,gD⟩:=h3.rows;obtain⟨xj,nj,dj,bj,hrj,hnj,Xv⟩:=(h3.row k pk qU).rd (dM (show j<L.w+1 by omega));have Xw:=cQ.A k BO j (by rw[h1.n];omega);refine aA (aj [0,2,8,9,10,24,25] rfl ?_);refine aq (aG (ag (ab 2 rfl (ae [0,2,4,8,9,10,24,25] ?_))));refine ag (ab 2 rfl (aV ah rfl rfl rfl (aT ah rfl rfl rfl (h3.cell rfl) (ab 1 rfl (aS ah rfl rfl rfl rfl rfl (xe.le (bt _ _)) (by rw[Int.toNat_natCast];exact gD k pk qU) (by omega) (by omega) fun _=> ?_)))));refine ab 1 rfl (ck (vs:=[.int .i64 nj,.int .i64 dj,.pointer bj]) ah rfl rfl rfl rfl hrj rfl (by decide) (by rw[Int.toNat_natCast];exact Xv) (by omega) (by omega) fun _=> ?_);refine aF rfl rfl (Fn.mg h3.ne (tK hnj (by omega))) ?_;rintro v4 H4 ⟨gp,dV,rfl⟩;have h4:=h3.kept gp;refine ab 1 rfl (ae [0,2,4,8,9,10,24,25,39] ?_);refine aD rfl (fun hb=> ?_) (fun hb=> ?_)
    ·
     have Xx:T.A k j≠0:=fun e=>by rw[e]at hb;simp[ik]at hb
     have Xy:=agi k T j Hq BO hBu Xu Xx;obtain⟨Xz,_,_⟩:=hinv _ _ Xy;refine ag (ab 3 rfl (aF rfl rfl (Xf (N:=N) h4 ((iF.kept dy).kept gp) BO (by omega) Xx cQ Xz (by omega) hw (by omega)) ?_));rintro v5 H5 ⟨h5,nG,iY⟩;refine ae [0,8,9,10] ?_;refine aW (aj [0,8,9,10] rfl ?_);refine aC rfl (aH rfl rfl ⟨by omega,by omega⟩ (ab 1 rfl (az ?_)));exact⟨k+1,T.pivot k j,by omega,au,h5,nG,Xy,(fm.trans (dy.trans gp).le).trans iY,by omega⟩
    have hb:T.A k j=0:=tO (by simpa using hb);refine aA (aj [0,2,8,9,10,24,25] rfl ?_);refine aC rfl (aH rfl rfl ⟨by omega,by omega⟩ (ab 1 rfl (az ?_)));exact⟨j+1,by omega,au,dy.trans gp,by omega,fun i hi=>by by_cases e:i=j;(rw[e];exact hb);exact so i (by omega)⟩
   have hb:L.u≤j:=by simpa using hb
   obtain rfl:j=L.u:=by omega
   refine aW (aj [0,8,9,10] rfl ?_);refine aC rfl (aH rfl rfl ⟨by omega,by omega⟩ (ab 1 rfl (az ?_)));exact⟨k+1,T,by omega,au,h3,iF.kept dy,Xt k T Hq BO (.inr so),fm.trans dy.le,by omega⟩
 ·
  have hb:T0.m≤k:=by simpa using hb
  obtain rfl:k=T0.m:=by omega
  refine aW ?_;refine⟨.inl rfl,_,.nil,?_⟩;exact⟨T,Hq,h1,iF,fm⟩
end Go.aw
