/- Part 5 of the proof: Num3, Bd, TDat, Tab1, TDat2, Tab2, Tab3, TDat3, Tab4. -/
import Derived.Test.YtdjoookebbbjkaaGreatA04
set_option linter.unusedVariables false
namespace Go.aq
open Go.Proofs Num Lp
def iw{α:Type}(P:Heap→List Value→α→Prop)(H:Heap)(vs:List Value):Option α→Prop
 | some a=>P H vs a
 | none=>True
theorem iw.up{α:Type}{P:Heap→List Value→α→Prop}(up:Up P):Up (iw P):=fun H H' vs a hl h=>by
 cases a with
 | none=>trivial
 | some a=>exact up H H' vs a hl h
def fill{α:Type}(l:List α)(k:Nat):List (Option α):=(l.take k).map some++List.replicate (l.length-k) none
section
variable {α:Type} {l:List α} {k:Nat}
theorem m9(h:k≤l.length):(fill l k).length=l.length:=by simp[fill];omega
theorem afX:fill l 0=List.replicate l.length none:=by simp[fill]
theorem y7{a:α}(h:l[k]? = some a):(fill l k).set k (some a)=fill l (k+1):=by
 have hk:=(List.getElem?_eq_some_iff.1 h).1
 apply List.ext_getElem?
 intro i
 by_cases e:i=k
 ·subst e
  rw[List.getElem?_set_self (by rw[m9 (by omega)];omega)]
  unfold fill
  rw[List.getElem?_append_left (by simp;omega),List.getElem?_map,List.getElem?_take,if_pos (by omega),h];rfl
 ·rw[List.getElem?_set_ne (fun e'=>e e'.symm)]
  unfold fill
  by_cases h1:i<k
  ·rw[List.getElem?_append_left (by simp;omega),List.getElem?_append_left (by simp;omega),List.getElem?_map,List.getElem?_map,List.getElem?_take,List.getElem?_take,if_pos h1,if_pos (by omega)]
  ·rw[List.getElem?_append_right (by simp;omega),List.getElem?_append_right (by simp;omega),List.getElem?_replicate,List.getElem?_replicate]
   simp only[List.length_map,List.length_take]
   by_cases h2:i<l.length
   ·rw[if_pos (by omega),if_pos (by omega)]
   ·rw[if_neg (by omega),if_neg (by omega)]
theorem afY:fill l l.length=l.map some:=by simp[fill]
theorem DJ{P:Heap→List Value→α→Prop}{H:Heap}{sz:Nat}{xs:List Value}(h:bG (iw P H) sz xs (fill l l.length)):bG (P H) sz xs l:=by
 rw[afY]at h
 refine⟨by simpa using h.len,fun i a ha=> ?_⟩
 exact h.at_ i (some a) (by rw[List.getElem?_map,ha];rfl)
end
theorem Bs{α:Type}{P:Heap→List Value→α→Prop}{H:Heap}{zs:List Value}{sz:Nat}(hz:zs.length=sz)(l:List α):bG (iw P H) sz (cR zs (l.length*sz)) (fill l 0):=by
 rw[afX]
 exact Gd (P:=iw P H) (a:=none) hz trivial _
theorem jg:Up bQ:=bQ.up
def dA(N:Nat)(H:Heap)(vs:List Value)(q:Rat):Prop:=cW H (.agg vs.toArray) q N
theorem pS(N:Nat):Up (dA N):=fun _ _ _ _ hl h=>cW.le h hl
def cg(H:Heap)(vs:List Value)(q:Rat):Prop:=bH H (.agg vs.toArray) q
theorem ef:Up cg:=fun _ _ _ _ hl h=>bH.le h hl
theorem DK{vs:List Value}{a b c:Value}(h:Value.agg vs.toArray = .agg #[a,b,c]):vs = [a,b,c]:=by
 simp only[Value.agg.injEq]at h
 have:=congrArg Array.toList h
 simpa using this
theorem dA.cells{N:Nat}{H:Heap}{vs:List Value}{q:Rat}(h:dA N H vs q):∃f A m c A' m' c',vs = [.bool f,.slice A m c,.slice A' m' c']:=by
 obtain⟨f,u,w,l1,l2,h1,⟨A,c,rfl,_,_⟩,⟨A',c',rfl,_,_⟩,_⟩:=h
 exact⟨f,A,_,c,A',_,c',DK h1⟩
theorem cg.rat{H:Heap}{vs:List Value}{q:Rat}{N:Nat}(h:cg H vs q)(hs:aM q≤N):dA N H vs q:=cW.mono (bH.raw h) hs
theorem bQ.cells{H:Heap}{vs:List Value}{q:Rat}(h:bQ H vs q):∃n d b,vs = [.int .i64 n,.int .i64 d,.pointer b]:=by
 obtain⟨n,d,b,h,_⟩:=h;exact⟨n,d,b,h⟩
theorem afZ(H:Heap)(g:Nat)(xs vs:List Value)(s e k sz:Nat):ins (ins H g ⟨xs,s,e,true⟩) g {(⟨xs,s,e,true⟩:Ent)with xs:=aL xs (0+k*sz) vs}=ins H g ⟨aL xs (k*sz) vs,s,e,true⟩:=by
 rw[nF,Nat.zero_add]
theorem dQ{H:Heap}{g:Nat}{xs:List Value}{s e:Nat}{b:Bool}(h:H g=some ⟨xs,s,e,b⟩):Rd H (some ⟨g,0,none⟩) xs:=fun i v hv=>⟨_,rfl,by simp[cell,iu,h,hv]⟩
theorem vH{q:Rat}(h:eY q=0):q=0:=by
 unfold eY at h
 split at h
 ·omega
 ·split at h
  ·assumption
  ·omega
theorem WB:aM 0=1:=by
 unfold aM
 show max (al 0).length (al 1).length=1
 rw[qt,vE];rfl
theorem WC{f g:Nat→Rat}{s n:Nat}(hf:∀k,k<n→aM (f k)≤s∧aM (g k)≤s):∀k,k≤n→aM (aZ k (fun j=>f j*g j))≤k*(2*s+1)+1:=by
 intro k
 induction k with
 | zero=>intro _;rw[DD,WB];omega
 | succ k ih=>
  intro hk
  have h1:=ih (by omega)
  have h2:=sk (f k) (g k)
  have h3:=VW (aZ k (fun j=>f j*g j)) (f k*g k)
  have h4:=hf k (by omega)
  rw[gn,Nat.add_mul]
  omega
theorem Pj{l:List Rat}{s:Nat}(h:∀q,q∈l→aM q≤s){k:Nat}(hk:k<l.length):aM (fn l k)≤s:=by
 rw[m8 (List.getElem?_eq_getElem hk)];exact h _ (List.getElem_mem hk)
def af0(H:Heap)(l:List Rat)(v:Value)(H':Heap):Prop:=∃g xs,H g=none∧v = .slice (some ⟨g,0,none⟩) l.length l.length∧H'=ins H g ⟨xs,l.length*3,121,true⟩∧∀K:Heap,bG (bQ K) 3 xs l
def Pk{α:Type}(P:Heap→List Value→α→Prop)(sz:Nat)(H:Heap)(l:List α)(v:Value)(H':Heap):Prop:=Heap.le H H'∧aN P sz H' v l
theorem af1{H:Heap}{n:Nat}(hn:(n:Int)≤8796093022208):
 Fn Tryz.prog 90 #[.int .i64 (n:Int)] H (af0 H (List.replicate n 0)):=by
 refine aY (args:=[_]) Tryz.func90 rfl rfl Tryz.ntmps90 rfl rfl fun w0=> ?_;refine ah [0] rfl ?_;refine ae (aa 1 rfl (ab [0] ?_));refine ae (aa 1 rfl (gO Tryz.underlying117 fh rfl rfl rfl (by omega) (by omega) (by omega) (by omega) ?_));intro g hg;rw[show ((n:Int)).toNat=n from by omega]
 have hz:∀K:Heap,bG (iw bQ K) 3 (cR [.int .i64 0,.int .i64 0,.pointer none] (n*3)) (fill (List.replicate n (0:Rat)) 0):=fun K=>by have:=Bs (P:=bQ) (H:=K) (zs:=[.int .i64 0,.int .i64 0,.pointer none]) rfl (List.replicate n (0:Rat));rwa [List.length_replicate]at this
 refine aa 1 rfl (ab [3] ?_);refine ao (ae (aa 3 rfl (ab [3,8,9] ?_)));refine aE (fX (fun(k:Nat)(xs:List Value)=>n-k) (fun(k:Nat)(xs:List Value)=>put (put (put (emp) 3 (.val (.slice (some ⟨g,0,none⟩) n n))) 8 (.val (.int .i64 (n:Int)))) 9 (.val (.int .i64 (k:Int)))) (fun(k:Nat)(xs:List Value) H'=>H'=ins H g ⟨xs,n*3,121,true⟩∧k≤n∧∀K:Heap,bG (iw bQ K) 3 xs (fill (List.replicate n (0:Rat)) k)) 0 _ (⟨rfl,Nat.zero_le _,hz⟩) ar ?_);rintro k xs H1 ⟨rfl,hk,he⟩;have kF:=m9 (l:=List.replicate n (0:Rat)) (k:=k) (by simpa using hk);have cY:=(he H).len;rw[kF,List.length_replicate]at cY;refine ae (aa 1 rfl (ab [3,8,9,10] ?_));refine ao (aD rfl (fun hb=> ?_) (fun hb=> ?_))
 ·
  have hb:k<n:=by simpa using hb
  refine aw (ah [3,8,9] rfl ?_);refine ao (aE (ae (aa 2 rfl (ab [3,4,8,9] ?_))));refine aA rfl (aa 2 rfl (aB rfl rfl (wZ) ?_));rintro v1 H1 ⟨e1,rfl⟩;rw[e1];obtain⟨ti,aj,ak⟩:=cL;refine cT (.inl rfl) ag rfl rfl rfl (by omega) (by omega) (bC _ _ _) rfl (by show 0+n*3≤xs.length;omega) aj ak (fun _=>rfl) rfl rfl rfl fun _=> ?_;refine au (ah [3,8,9] rfl ?_);refine aA rfl (aF rfl rfl ⟨by omega,by omega⟩ (aa 1 rfl (au ?_)));exact⟨k+1,_,by omega,ar,afZ H g xs _ _ _ k 3,by omega,fun K=>by rw[←y7 (a:=(0:Rat)) (by rw[List.getElem?_replicate,if_pos hb])];exact(he K).set (by rw[kF,List.length_replicate];exact hb) (wY K (n:=0) (by decide) (by decide)) rfl⟩
 ·
  have hb:n≤k:=by simpa using hb
  obtain rfl:k=n:=by omega
  refine aU (ah [3] rfl ?_);refine ae (aa 2 rfl (ab [2] ?_));refine az ⟨.inr rfl,_,.tmp rfl (.nil),?_⟩;refine⟨g,xs,hg,by rw[List.length_replicate];rfl,by rw[List.length_replicate],fun K=>DJ (l:=List.replicate k (0:Rat)) (by rw[List.length_replicate];exact he K)⟩
theorem WD{H:Heap}{v:Value}{l:List Rat}{N:Nat}(hv:aN (dA N) 3 H v l)(hN:(N:Int)≤1099511627776)(hl:(l.length:Int)≤1099511627776):
 Fn Tryz.prog 91 #[v] H (Pk bQ 3 H l):=by
 obtain⟨A,c,ys,rfl,hc,hr,iE⟩:=hv;refine aY (args:=[_]) Tryz.func91 rfl rfl Tryz.ntmps91 rfl rfl fun w0=> ?_;refine ah [0] rfl ?_;refine ae (aa 1 rfl (ab [0] ?_));refine ae (aa 2 rfl (gO Tryz.underlying117 fh rfl rfl rfl (by omega) (by omega) (by omega) (by omega) ?_));intro g hg;rw[show ((l.length:Int)).toNat=l.length from by omega];have hz:bG (iw bQ (rem (ins H g ⟨cR [.int .i64 0,.int .i64 0,.pointer none] (l.length*3),l.length*3,121,true⟩) [g])) 3 (cR [.int .i64 0,.int .i64 0,.pointer none] (l.length*3)) (fill l 0):=Bs (sz:=3) (by rfl) l;refine aa 1 rfl (ab [0,3] ?_);refine ao (ae (aa 3 rfl (ab [3,9,10,11] ?_)));refine aE (fX (fun(k:Nat)(xs:List Value)=>l.length-k) (fun(k:Nat)(xs:List Value)=>put (put (put (put (emp) 3 (.val (.slice (some ⟨g,0,none⟩) l.length l.length))) 9 (.val (.slice A l.length c))) 10 (.val (.int .i64 (l.length:Int)))) 11 (.val (.int .i64 (k:Int)))) (fun(k:Nat)(xs:List Value) H'=>Heap.le H (rem H' [g])∧H' g=some ⟨xs,l.length*3,121,true⟩∧k≤l.length∧bG (iw bQ (rem H' [g])) 3 xs (fill l k)) 0 _ (⟨by rw[sh _ hg,oO];exact .refl _,bC _ _ _,Nat.zero_le _,hz⟩) ar ?_);rintro k xs H1 ⟨hle,lB,hk,he⟩;have kF:=m9 (l:=l) (k:=k) hk
 have cY:=he.len;rw[kF]at cY;have oT:=hle.trans (bF H1 [g]);refine ae (aa 1 rfl (ab [3,9,10,11,12] ?_));refine ao (aD rfl (fun hb=> ?_) (fun hb=> ?_))
 ·
  have hb:k<l.length:=by simpa using hb
  obtain⟨q,fT⟩:∃q,l[k]? = some q:=⟨_,List.getElem?_eq_getElem hb⟩;obtain⟨vs,il,Gt,Pm⟩:=iE.get fT;obtain⟨f,A1,m1,c1,A2,m2,c2,rfl⟩:=Gt.cells;have Pn:cW (rem H1 [g]) _ q N:=cW.le Gt hle;refine aw (ah [3,9,10,11] rfl ?_);refine ao (aE (ae (aa 1 rfl (bY (vs:=[.bool f,.slice A1 m1 c1,.slice A2 m2 c2]) ag rfl rfl rfl rfl (hr.le oT) rfl (by decide) Pm (by omega) (by omega) fun _=>(bm cj rfl (vr 1 ?_))))));obtain⟨ti,aj,ak⟩:=aX;refine aI (.inl ⟨rfl,rfl⟩) rfl rfl rfl aj ak rfl rfl rfl (ab [3,4,5,9,10,11] ?_);refine aA rfl (aa 3 rfl (aB rfl rfl (Fn.frame (gs:=[g]) (fun q hq=>by simp only[List.mem_singleton]at hq;subst hq;rw[lB];simp) (OY Pn hN)) ?_));rintro v2 H2 ⟨⟨dP,OZ,rfl,bS⟩,lW⟩;obtain⟨n2,d2,b2,rfl,_⟩:=id bS;have eu:=(lW g (List.mem_singleton.2 rfl)).trans lB;obtain⟨ti,aj,ak⟩:=cL;refine cT (.inl rfl) ag rfl rfl rfl (by omega) (by omega) (eu) rfl (by show 0+l.length*3≤xs.length;omega) aj ak (fun _=>rfl) rfl rfl rfl fun _=> ?_;refine au (ah [3,9,10,11] rfl ?_);refine aA rfl (aF rfl rfl ⟨by omega,by omega⟩ (aa 1 rfl (au ?_)));refine⟨k+1,aL xs (k*3) [.int .i64 n2,.int .i64 d2,.pointer b2],by omega,ar,?_,?_,by omega,?_⟩
  ·rw[cJ _ (List.mem_singleton.2 rfl)];exact hle.trans dP
  ·rw[bC,Nat.zero_add];rfl
  ·
   rw[cJ _ (List.mem_singleton.2 rfl),←y7 fT];exact(he.mono fun vs a=>iw.up jg _ _ vs a dP).set (by rw[kF];exact hb) bS rfl
 ·
  have hb:l.length≤k:=by simpa using hb
  obtain rfl:k=l.length:=by omega
  refine aU (ah [3] rfl ?_);refine ae (aa 2 rfl (ab [2] ?_));refine az ⟨.inr rfl,_,.tmp rfl (.nil),?_⟩;exact⟨hle.trans (bF _ _),some ⟨g,0,none⟩,l.length,xs,rfl,Nat.le_refl _,dQ lB,(DJ he).mono fun vs a=>jg _ _ vs a (bF _ _)⟩
theorem WE{H:Heap}{v:Value}{l:List Rat}(hv:aN bQ 3 H v l)(hN:∀q,q∈l→(aM q:Int)≤1099511627776)(hl:(l.length:Int)≤1099511627776):
 Fn Tryz.prog 129 #[v] H (Pk cg 3 H l):=by
 obtain⟨A,c,ys,rfl,hc,hr,iE⟩:=hv;refine aY (args:=[_]) Tryz.func129 rfl rfl Tryz.ntmps129 rfl rfl fun w0=> ?_;refine ah [0] rfl ?_;refine ae (aa 1 rfl (ab [0] ?_));refine ae (aa 2 rfl (gO Tryz.underlying28 cj rfl rfl rfl (by omega) (by omega) (by omega) (by omega) ?_));intro g hg;rw[show ((l.length:Int)).toNat=l.length from by omega];have hz:bG (iw cg (rem (ins H g ⟨cR [.bool false,.slice none 0 0,.slice none 0 0] (l.length*3),l.length*3,38,true⟩) [g])) 3 (cR [.bool false,.slice none 0 0,.slice none 0 0] (l.length*3)) (fill l 0):=Bs (sz:=3) (by rfl) l;refine aa 1 rfl (ab [0,3] ?_);refine ao (ae (aa 3 rfl (ab [3,9,10,11] ?_)));refine aE (fX (fun(k:Nat)(xs:List Value)=>l.length-k) (fun(k:Nat)(xs:List Value)=>put (put (put (put (emp) 3 (.val (.slice (some ⟨g,0,none⟩) l.length l.length))) 9 (.val (.slice A l.length c))) 10 (.val (.int .i64 (l.length:Int)))) 11 (.val (.int .i64 (k:Int)))) (fun(k:Nat)(xs:List Value) H'=>Heap.le H (rem H' [g])∧H' g=some ⟨xs,l.length*3,38,true⟩∧k≤l.length∧bG (iw cg (rem H' [g])) 3 xs (fill l k)) 0 _ (⟨by rw[sh _ hg,oO];exact .refl _,bC _ _ _,Nat.zero_le _,hz⟩) ar ?_);rintro k xs H1 ⟨hle,lB,hk,he⟩;have kF:=m9 (l:=l) (k:=k) hk
 have cY:=he.len;rw[kF]at cY;have oT:=hle.trans (bF H1 [g]);refine ae (aa 1 rfl (ab [3,9,10,11,12] ?_));refine ao (aD rfl (fun hb=> ?_) (fun hb=> ?_))
 ·
  have hb:k<l.length:=by simpa using hb
  obtain⟨q,fT⟩:∃q,l[k]? = some q:=⟨_,List.getElem?_eq_getElem hb⟩;obtain⟨vs,il,Gt,Pm⟩:=iE.get fT;obtain⟨n1,d1,b1,rfl⟩:=Gt.cells;have Pn:=Gt.le hle;refine aw (ah [3,9,10,11] rfl ?_);refine ao (aE (ae (aa 1 rfl (bY (vs:=[.int .i64 n1,.int .i64 d1,.pointer b1]) ag rfl rfl rfl rfl (hr.le oT) rfl (by decide) Pm (by omega) (by omega) fun _=>(bm fh rfl (vr 1 ?_))))));obtain⟨ti,aj,ak⟩:=cL;refine aI (.inl ⟨rfl,rfl⟩) rfl rfl rfl aj ak rfl rfl rfl (ab [3,4,5,9,10,11] ?_);refine aA rfl (aa 3 rfl (aB rfl rfl (Fn.frame (gs:=[g]) (fun q hq=>by simp only[List.mem_singleton]at hq;subst hq;rw[lB];simp) (VY Pn (hN q (List.mem_of_getElem? fT)))) ?_));rintro v2 H2 ⟨⟨dP,bS⟩,lW⟩;obtain⟨u2,w2,rfl,fS,jE⟩:=id bS;obtain⟨A2,c2,rfl,m0,kY⟩:=id fS;obtain⟨A3,c3,rfl,pN,qA⟩:=id jE;have eu:=(lW g (List.mem_singleton.2 rfl)).trans lB;obtain⟨ti,aj,ak⟩:=aX;refine cT (.inl rfl) ag rfl rfl rfl (by omega) (by omega) (eu) rfl (by show 0+l.length*3≤xs.length;omega) aj ak (fun _=>rfl) rfl rfl rfl fun _=> ?_;refine au (ah [3,9,10,11] rfl ?_);refine aA rfl (aF rfl rfl ⟨by omega,by omega⟩ (aa 1 rfl (au ?_)))
  refine⟨k+1,aL xs (k*3) [.bool (decide (q.num<0)),.slice A2 (al q.num.natAbs).length c2,.slice A3 (al q.den).length c3],by omega,ar,?_,?_,by omega,?_⟩
  ·rw[cJ _ (List.mem_singleton.2 rfl)];exact hle.trans dP
  ·rw[bC,Nat.zero_add];rfl
  ·
   rw[cJ _ (List.mem_singleton.2 rfl),←y7 fT];exact(he.mono fun vs a=>iw.up ef _ _ vs a dP).set (by rw[kF];exact hb) (show cg _ _ q from bS) rfl
 ·
  have hb:l.length≤k:=by simpa using hb
  obtain rfl:k=l.length:=by omega
  refine aU (ah [3] rfl ?_);refine ae (aa 2 rfl (ab [2] ?_));refine az ⟨.inr rfl,_,.tmp rfl (.nil),?_⟩;exact⟨hle.trans (bF _ _),some ⟨g,0,none⟩,l.length,xs,rfl,Nat.le_refl _,dQ lB,(DJ he).mono fun vs a=>ef _ _ vs a (bF _ _)⟩
end Go.aq
namespace Lp
namespace av
def sA(T:av)(j:Nat):Prop:=∃k,k<T.m∧T.B k=j
section
variable {T S:av}
theorem WG(hT:T.WF)(h:Same T S){i j:Nat}(hi:i<S.m)(hj:j≤T.n):S.A i j=aZ T.m (fun k=>S.A i (T.B k)*T.A k j):=by
 have h1:=(h.nN _).2 (yT hT j hj) i hi
 rw[h.n,DE T hT.lt j hj]at h1
 grind
theorem af2(hT:T.WF)(h:Same T S){j:Nat}(hj:j≤T.n):S.c j=T.c j+aZ T.m (fun k=>S.c (T.B k)*T.A k j):=by
 have h1:=h.cost _ (yT hT j hj)
 rw[DF hT j hj]at h1
 unfold cost at h1
 rw[h.n,DE T hT.lt j hj]at h1
 grind
theorem exchange(hT:T.WF)(hS:S.WF)(h:Same T S){i0:Nat}(hi:i0<S.m)(hn:¬T.sA (S.B i0)):∃r,r<T.m∧T.A r (S.B i0)≠0∧¬S.sA (T.B r):=by
 false_or_by_contra
 rename_i hc
 have bP:=hS.lt i0 hi
 have h1:=WG hT h hi (j:=S.B i0) (by rw[h.n]at bP;omega)
 rw[hS.unit i0 i0 hi hi,if_pos rfl,lA]at h1
 ·grind
 ·intro k hk
  by_cases e:T.A k (S.B i0)=0
  ·rw[e];grind
  ·by_cases hb:S.sA (T.B k)
   ·obtain⟨i',eZ,e'⟩:=hb
    have bA:i0≠i':=fun e0=>hn ⟨k,hk,by rw[e0];exact e'.symm⟩
    rw[←e',hS.unit i' i0 eZ hi,if_neg bA];grind
   ·exact absurd ⟨k,hk,e,hb⟩ hc
open Classical in
noncomputable def tZ(T S:av):Nat:=(List.range S.m).countP fun i=>decide (¬T.sA (S.B i))
theorem af3{r s j:Nat}(h:T.sA j)(hj:j≠T.B r):(T.pivot r s).sA j:=by
 obtain⟨k,hk,e⟩:=h
 refine⟨k,hk,?_⟩
 show (if k=r then s else T.B k)=j
 rw[if_neg (fun e'=>hj (by rw[←e,e'])),e]
theorem af4{r i0:Nat}(hr:r<T.m)(hi:i0<S.m)(hn:¬T.sA (S.B i0))(hb:¬S.sA (T.B r)):tZ (T.pivot r (S.B i0)) S<tZ T S:=by
 unfold tZ
 refine V8 _ _ _ (fun i Az hd=> ?_) ⟨i0,List.mem_range.2 hi,?_,?_⟩
 ·simp only[decide_eq_true_eq]at hd⊢
  exact fun lx=>hd (af3 lx (fun e=>hb ⟨i,List.mem_range.1 Az,e⟩))
 ·simp only[decide_eq_true_eq];exact hn
 ·simp only[decide_eq_false_iff_not,Classical.not_not]
  exact⟨r,hr,by show (if r=r then S.B i0 else T.B r)=_;rw[if_pos rfl]⟩
def fq(D X:Nat)(q:Rat):Prop:=∃z:Int,q*(D:Rat)=(z:Rat)∧z.natAbs≤X
def lY(n j k z:Nat):Nat:=if j=n then k else z
structure BdD(D0 f e D:Nat)(T:av):Prop where
 pos:0<D
 le:D≤2^e
 A:∀i,i<T.m→∀j,j≤T.n→fq (D*lY T.n j D0 1) (2^(e+lY T.n j f 0)) (T.A i j)
 c:∀j,j≤T.n→fq (D*lY T.n j D0 1) (2^(e+lY T.n j f 0)) (T.c j)
def Bd(D0 f e:Nat)(T:av):Prop:=∃D:Nat,BdD D0 f e D T
theorem DL{n j k z:Nat}(h:j<n):lY n j k z=z:=if_neg (by omega)
theorem KW{n k z:Nat}:lY n n k z=k:=if_pos rfl
theorem fq.mono{D X Y:Nat}{q:Rat}(h:fq D X q)(hl:X≤Y):fq D Y q:=by
 obtain⟨z,h1,h2⟩:=h
 exact⟨z,h1,Nat.le_trans h2 hl⟩
theorem Bd.mono{D0 f e e':Nat}(h:Bd D0 f e T)(hl:e≤e'):Bd D0 f e' T:=by
 obtain⟨D,h1,h2,h3,h4⟩:=h
 have hp:∀k,2^(e+k)≤2^(e'+k):=fun k=>Nat.pow_le_pow_right (by decide) (by omega)
 exact⟨D,h1,Nat.le_trans h2 (hp 0),fun i hi j hj=>(h3 i hi j hj).mono (hp _),fun j hj=>(h4 j hj).mono (hp _)⟩
theorem natAbs_sub_le(a b:Int):(a-b).natAbs≤a.natAbs+b.natAbs:=by omega
theorem Po{D K:Nat}{N z1 z2 z3:Int}{a b c d:Rat}{X Y:Nat}(hD:(D:Rat)≠0)(hN:(N:Rat)≠0)(h:d*(D:Rat)=(N:Rat))(h1:a*((D*K:Nat):Rat)=(z1:Rat))(h2:b*(D:Rat)=(z2:Rat))(h3:c*((D*K:Nat):Rat)=(z3:Rat))
  (k1:z1.natAbs≤Y) (k2:z2.natAbs≤X) (k3:z3.natAbs≤Y) (k:N.natAbs≤X):fq (D*N.natAbs*K) (2*(X*Y)) (a-b*(c/d)):=by
 refine⟨N.sign*(z1*N-z2*z3),?_,?_⟩
 ·have e1:((D*N.natAbs*K:Nat):Rat)=(D:Rat)*((N.sign:Rat)*(N:Rat))*(K:Rat):=by
   have sx:(N.natAbs:Int)=N.sign*N:=by
    rcases Int.lt_trichotomy N 0 with h | h | h
    ·rw[Int.sign_eq_neg_one_of_neg h];omega
    ·subst h;rfl
    ·rw[Int.sign_eq_one_of_pos h];omega
   have:((N.natAbs:Int):Rat)=((N.sign*N:Int):Rat):=by rw[sx]
   rw[Rat.natCast_mul,Rat.natCast_mul]
   have h0:((N.natAbs:Nat):Rat)=((N.natAbs:Int):Rat):=rfl
   rw[h0,this,Rat.intCast_mul]
  have hd:d≠0:=fun e=>by rw[e]at h;grind
  rw[Rat.natCast_mul]at h1 h3
  rw[e1,Rat.intCast_mul,Rat.intCast_sub,Rat.intCast_mul,Rat.intCast_mul,←h1,←h2,←h3,←h]
  grind
 ·have hs:N.sign.natAbs≤1:=by
   rw[Int.natAbs_sign];split <;> omega
  rw[Int.natAbs_mul]
  have h4:=natAbs_sub_le (z1*N) (z2*z3)
  rw[Int.natAbs_mul,Int.natAbs_mul]at h4
  have h5:z1.natAbs*N.natAbs≤X*Y:=by rw[Nat.mul_comm];exact Nat.mul_le_mul k k1
  have h6:z2.natAbs*z3.natAbs≤X*Y:=Nat.mul_le_mul k2 k3
  have h7:N.sign.natAbs*(z1*N-z2*z3).natAbs≤1*(z1*N-z2*z3).natAbs:=Nat.mul_le_mul_right _ hs
  omega
theorem Pp(e f:Nat):2*(2^e*2^(e+f))=2^(2*e+1+f):=by
 rw[show 2*e+1+f=(e+(e+f))+1 by omega,Nat.pow_succ,Nat.pow_add 2 e (e+f),Nat.mul_comm]
theorem Bd.pivot{D0 f e r s:Nat}(h:Bd D0 f e T)(hr:r<T.m)(hs:s<T.n)(hp:T.A r s≠0):Bd D0 f (2*e+1) (T.pivot r s):=by
 obtain⟨D,h1,h2,h3,h4⟩:=h
 have one:∀{q:Rat},fq (D*lY T.n s D0 1) (2^(e+lY T.n s f 0)) q→fq D (2^e) q:=fun h=>by rwa [DL hs,DL hs,Nat.mul_one]at h
 obtain⟨N,hN,KY⟩:=one (h3 r hr s (by omega))
 have hD:(D:Rat)≠0:=fun e=>by
  have:D=0:=by exact_mod_cast e
  omega
 have DM:(N:Rat)≠0:=by
  rw[←hN]
  intro e0
  rcases Rat.mul_eq_zero.1 e0 with h | h
  ·exact hp h
  ·exact hD h
 have hNz:N≠0:=fun e=>DM (by rw[e];rfl)
 refine⟨D*N.natAbs,Nat.mul_pos h1 (by omega),?_,fun i hi j hj=> ?_,fun j hj=> ?_⟩
 ·have:=Pp e 0
  rw[Nat.add_zero,Nat.add_zero]at this
  rw[←this]
  have:=Nat.mul_le_mul h2 KY
  omega
 ·show fq (D*N.natAbs*lY T.n j D0 1) (2^(2*e+1+lY T.n j f 0)) _
  rw[←Pp]
  obtain⟨z3,k3,l3⟩:=h3 r hr j hj
  show fq _ _ (if i=r then T.A r j/T.A r s else T.A i j-T.A i s*(T.A r j/T.A r s))
  by_cases e':i=r
  ·rw[if_pos e']
   have e3:(-1:Rat)*(D:Rat)=((-(D:Int):Int):Rat):=by
    rw[Rat.intCast_neg]
    have:((D:Int):Rat)=(D:Rat):=rfl
    rw[this];grind
   have:=Po (z1:=0) (a:=0) (z2:= -(D:Int)) (b:= -1) hD DM hN (by grind) e3 k3 (by omega) (by omega) l3 KY
   have e2:(0:Rat) - -1*(T.A r j/T.A r s)=T.A r j/T.A r s:=by grind
   rwa [e2]at this
  ·rw[if_neg e']
   obtain⟨z1,k1,l1⟩:=h3 i hi j hj
   obtain⟨z2,k2,l2⟩:=one (h3 i hi s (by omega))
   exact Po hD DM hN k1 k2 k3 l1 l2 l3 KY
 ·show fq (D*N.natAbs*lY T.n j D0 1) (2^(2*e+1+lY T.n j f 0)) _
  rw[←Pp]
  obtain⟨z3,k3,l3⟩:=h3 r hr j hj
  obtain⟨z1,k1,l1⟩:=h4 j hj
  obtain⟨z2,k2,l2⟩:=one (h4 s (by omega))
  exact Po hD DM hN k1 k2 k3 l1 l2 l3 KY
theorem reach{D0 f:Nat}(hS:S.WF):∀(k e:Nat)(T:av),T.WF→Same T S→Bd D0 f e T→tZ T S≤k→∃T':av,T'.WF∧Same T' S∧(∀i,i<S.m→T'.sA (S.B i))∧Bd D0 f (2^k*(e+1)-1) T':=by
 intro k
 induction k with
 | zero=>
  intro e T hT h hb hc
  refine⟨T,hT,h,fun i hi=> ?_,by rw[Nat.pow_zero,Nat.one_mul];exact hb⟩
  false_or_by_contra
  rename_i hn
  have:0<tZ T S:=by
   unfold tZ
   exact List.countP_pos_iff.2 ⟨i,List.mem_range.2 hi,by simp only[decide_eq_true_eq];exact hn⟩
  omega
 | succ k ih=>
  intro e T hT h hb hc
  by_cases ha:∀i,i<S.m→T.sA (S.B i)
  ·refine⟨T,hT,h,ha,hb.mono ?_⟩
   have:1*(e+1)≤2^(k+1)*(e+1):=Nat.mul_le_mul_right _ Nat.one_le_two_pow
   omega
  ·obtain⟨i0,ha⟩:=Classical.not_forall.1 ha
   obtain⟨hi,hn⟩:=Classical.not_imp.1 ha
   obtain⟨r,hr,hp,vz⟩:=exchange hT hS h hi hn
   have bP:=hS.lt i0 hi
   rw[h.n]at bP
   obtain⟨T',h1,h2,h3,h4⟩:=ih (2*e+1) (T.pivot r (S.B i0)) (Be hT hr bP hp) ((Same.pivot hr hp).symm.trans h) (hb.pivot hr bP hp) (by have:=af4 hr hi hn vz;omega)
   refine⟨T',h1,h2,h3,?_⟩
   have e2:2^k*(2*e+1+1)=2^(k+1)*(e+1):=by
    rw[Nat.pow_succ,Nat.mul_assoc]
    congr 1
   rwa [e2]at h4
theorem af5{D0 f e k:Nat}(hT:T.WF)(hS:S.WF)(h:Same T S)(hb:Bd D0 f e T)(hk:tZ T S≤k):Bd D0 f (2^k*(e+1)-1) S:=by
 obtain⟨T',h1,h2,h3,D,hD,hX,hA,hC⟩:=reach hS k e T hT h hb hk
 have lx:∀i,i<S.m→∀k,k<T'.m→∀i',i'<S.m→T'.B k=S.B i→T'.A k (S.B i')=if i'=i then 1 else 0:=by
  intro i hi k hk i' eZ e
  obtain⟨k',iM,e'⟩:=h3 i' eZ
  rw[←e',h1.unit k' k iM hk]
  by_cases e0:i'=i
  ·rw[if_pos e0,if_pos (h1.inj hk iM (by rw[e,e',e0]))]
  ·rw[if_neg e0,if_neg (fun e1=>e0 (hS.inj eZ hi (by rw[←e',←e,e1])))]
 refine⟨D,hD,hX,fun i hi j hj=> ?_,fun j hj=> ?_⟩
 ·obtain⟨k,hk,e⟩:=h3 i hi
  have h4:=WG hS h2.symm (i:=k) (j:=j) hk hj
  rw[tW (k:=i) hi _ (fun i' eZ bA=>by rw[lx i hi k hk i' eZ e,if_neg bA];grind),lx i hi k hk i hi e,if_pos rfl]at h4
  have h5:=hA k hk j (by rw[←h2.n];exact hj)
  rw[h4,←h2.n]at h5
  have e6:1*S.A i j=S.A i j:=by grind
  rwa [e6]at h5
 ·have h4:=af2 hS h2.symm (j:=j) hj
  rw[lA]at h4
  ·have h5:=hC j (by rw[←h2.n];exact hj)
   rw[h4,←h2.n]at h5
   have e6:S.c j+0=S.c j:=by grind
   rwa [e6]at h5
  ·intro i hi
   obtain⟨k,hk,e⟩:=h3 i hi
   rw[←e,h1.zero k hk];grind
theorem af6(T S:av):tZ T S≤S.m:=by
 unfold tZ
 exact Nat.le_trans List.countP_le_length (by rw[List.length_range];exact Nat.le_refl _)
theorem WH:∀(n:Nat)(l:List Nat),l.Nodup→(∀x,x∈l→x<n)→l.length≤n
 | 0,l,_,h=>by
  cases l with
  | nil=>exact Nat.le_refl _
  | cons x l=>exact absurd (h x (List.mem_cons_self ..)) (Nat.not_lt_zero _)
 | n+1,l,hd,h=>by
  have h1:=WH n (l.erase n) (hd.erase n) fun x hx=>by
   have h2:=(hd.mem_erase_iff).1 hx
   have:=h x h2.2
   have:=h2.1
   omega
  have h2:l.length≤(l.erase n).length+1:=by
   rw[List.length_erase];split <;> omega
  omega
theorem Pq{f:Nat→Nat}:∀{l:List Nat},l.Nodup→(∀x,x∈l→∀y,y∈l→f x=f y→x=y)→(l.map f).Nodup
 | [],_,_=>List.nodup_nil
 | x::l,h,hi=>by
  rw[List.nodup_cons]at h
  rw[List.map_cons,List.nodup_cons]
  refine⟨fun hm=> ?_,Pq h.2 fun y hy z hz=>hi y (List.mem_cons_of_mem _ hy) z (List.mem_cons_of_mem _ hz)⟩
  obtain⟨y,hy,e⟩:=List.mem_map.1 hm
  have:=hi y (List.mem_cons_of_mem _ hy) x (List.mem_cons_self ..) e
  exact h.1 (this▸hy)
open Classical in
theorem af7(hT:T.WF)(hS:S.WF)(h:Same T S):tZ T S+T.m≤T.n:=by
 unfold tZ
 rw[List.countP_eq_length_filter]
 generalize hl:(List.range S.m).filter (fun i=>decide (¬T.sA (S.B i)))=l
 have ua:∀i,i∈l→i<S.m∧¬T.sA (S.B i):=fun i hi=>by
  rw[←hl,List.mem_filter]at hi
  exact⟨List.mem_range.1 hi.1,of_decide_eq_true hi.2⟩
 have Pr:l.Nodup:=by rw[←hl];exact List.Pairwise.filter _ List.nodup_range
 have h1:=WH T.n (l.map S.B++(List.range T.m).map T.B) ?_ ?_
 ·rwa [List.length_append,List.length_map,List.length_map,List.length_range]at h1
 ·rw[List.nodup_append]
  refine⟨Pq Pr fun x hx y hy e=>hS.inj (ua x hx).1 (ua y hy).1 e,Pq List.nodup_range fun x hx y hy e=>hT.inj (List.mem_range.1 hx) (List.mem_range.1 hy) e,fun a ha b hb e=> ?_⟩
  obtain⟨i,hi,rfl⟩:=List.mem_map.1 ha
  obtain⟨k,hk,rfl⟩:=List.mem_map.1 hb
  exact(ua i hi).2 ⟨k,List.mem_range.1 hk,e.symm⟩
 ·intro x hx
  rcases List.mem_append.1 hx with hx | hx
  ·obtain⟨i,hi,rfl⟩:=List.mem_map.1 hx
   have:=hS.lt i (ua i hi).1
   rw[←h.n];exact this
  ·obtain⟨i,hi,rfl⟩:=List.mem_map.1 hx
   exact hT.lt i (List.mem_range.1 hi)
theorem af8{D X:Nat}{q:Rat}(hD:0<D)(h:fq D X q):q.num.natAbs≤X∧q.den≤D:=by
 obtain⟨z,h1,h2⟩:=h
 have hD':(D:Rat)≠0:=fun e=>by
  have:D=0:=by exact_mod_cast e
  omega
 have e:mkRat z D=q:=by
  rw[Rat.mkRat_eq_div]
  grind
 obtain⟨k,hk,h3,h4⟩:=Rat.mkRat_num_den (n:=z) (d:=D) (by omega) (n':=q.num) (d':=q.den) (z':=q.den_nz) (c:=q.reduced) e
 refine⟨?_,?_⟩
 ·rw[h3,Int.natAbs_mul,Int.natAbs_natCast]at h2
  exact Nat.le_trans (Nat.le_mul_of_pos_right _ (by omega)) h2
 ·rw[h4]
  exact Nat.le_mul_of_pos_right _ (by omega)
def wt(q:Rat):Nat:=q.num.natAbs.log2+q.den.log2+2
theorem af9(q:Rat):q.num.natAbs≤2^wt q:=by
 have h1:=Nat.lt_log2_self (n:=q.num.natAbs)
 have h2:=Nat.pow_le_pow_right (n:=2) (by decide) (show q.num.natAbs.log2+1≤wt q by unfold wt;omega)
 omega
theorem aga(q:Rat):q.den≤2^wt q:=by
 have h1:=Nat.lt_log2_self (n:=q.den)
 have h2:=Nat.pow_le_pow_right (n:=2) (by decide) (show q.den.log2+1≤wt q by unfold wt;omega)
 omega
def ix:List Rat→Nat
 | []=>0
 | q::l=>wt q+ix l
def iQ:List Rat→Nat
 | []=>1
 | q::l=>q.den*iQ l
theorem KZ(l:List Rat):0<iQ l:=by
 induction l with
 | nil=>exact Nat.one_pos
 | cons q l ih=>exact Nat.mul_pos (Nat.pos_of_ne_zero q.den_nz) ih
theorem DN(l:List Rat):iQ l≤2^ix l:=by
 induction l with
 | nil=>exact Nat.le_refl _
 | cons q l ih=>
  simp only[iQ,ix,Nat.pow_add]
  exact Nat.mul_le_mul (aga q) ih
theorem agb{l:List Rat}{q:Rat}(h:q∈l):∃k,iQ l=q.den*k:=by
 induction l with
 | nil=>cases h
 | cons r l ih=>
  rcases List.mem_cons.1 h with rfl | h
  ·exact⟨_,rfl⟩
  ·obtain⟨k,hk⟩:=ih h
   exact⟨r.den*k,by simp only[iQ,hk];rw[Nat.mul_left_comm]⟩
theorem agc{l:List Rat}{q:Rat}(h:q∈l):wt q≤ix l:=by
 induction l with
 | nil=>cases h
 | cons r l ih=>
  simp only[ix]
  rcases List.mem_cons.1 h with rfl | h
  ·omega
  ·have:=ih h;omega
theorem Ps{l:List Rat}{q:Rat}(h:q∈l):fq (iQ l) (2^(2*ix l)) q:=by
 obtain⟨k,hk⟩:=agb h
 refine⟨q.num*k,?_,?_⟩
 ·rw[hk,Rat.natCast_mul,Rat.intCast_mul]
  have h1:q*(q.den:Rat)=(q.num:Rat):=by
   have hd:(q.den:Rat)≠0:=fun e=>q.den_nz (by exact_mod_cast e)
   have e:=Rat.mkRat_self q
   rw[Rat.mkRat_eq_div]at e
   grind
  have h2:((k:Int):Rat)=(k:Rat):=rfl
  rw[h2,←h1];grind
 ·rw[Int.natAbs_mul,Int.natAbs_natCast]
  have h1:=af9 q
  have h2:=Nat.pow_le_pow_right (n:=2) (by decide) (agc h)
  have h3:k≤iQ l:=by
   rw[hk];exact Nat.le_mul_of_pos_left _ (Nat.pos_of_ne_zero q.den_nz)
  have h4:=DN l
  rw[Nat.two_mul,Nat.pow_add]
  exact Nat.mul_le_mul (Nat.le_trans h1 h2) (Nat.le_trans h3 h4)
theorem WI(l:List Rat)(z:Int)(hz:z.natAbs≤1):fq (iQ l) (2^(2*ix l)) (z:Rat):=by
 refine⟨z*iQ l,?_,?_⟩
 ·rw[Rat.intCast_mul];rfl
 ·rw[Int.natAbs_mul,Int.natAbs_natCast]
  have h1:z.natAbs*iQ l≤1*iQ l:=Nat.mul_le_mul_right _ hz
  have h2:=DN l
  have h3:=Nat.pow_le_pow_right (n:=2) (by decide) (show ix l≤2*ix l by omega)
  omega
theorem fq.neg{D X:Nat}{q:Rat}(h:fq D X q):fq D X (-q):=by
 obtain⟨z,h1,h2⟩:=h
 exact⟨-z,by rw[Rat.intCast_neg,←h1];grind,by omega⟩
theorem fq.sub{D X Y:Nat}{q r:Rat}(h:fq D X q)(k:fq D Y r):fq D (X+Y) (q-r):=by
 obtain⟨z,h1,h2⟩:=h
 obtain⟨y,k1,k2⟩:=k
 exact⟨z-y,by rw[Rat.intCast_sub,←h1,←k1];grind,by omega⟩
theorem K1(D X:Nat):fq D X 0:=⟨0,by grind,by simp⟩
theorem agd{D X:Nat}(m:Nat)(f:Nat→Rat)(h:∀i,i<m→fq D X (f i)):fq D (m*X) (aZ m f):=by
 induction m with
 | zero=>rw[DD];exact K1 _ _
 | succ m ih=>
  rw[gn,Nat.succ_mul]
  obtain⟨z,h1,h2⟩:=ih (fun i hi=>h i (by omega))
  obtain⟨y,k1,k2⟩:=h m (by omega)
  exact⟨z+y,by rw[Rat.intCast_add,←h1,←k1];grind,by omega⟩
end
end av
end Lp
namespace Go.aq
open Go.Proofs Num Lp
def aK(f:Nat→Rat)(n:Nat):List Rat:=(List.range n).map f
theorem bh(f:Nat→Rat)(n:Nat):(aK f n).length=n:=by simp[aK]
theorem dD{f:Nat→Rat}{n j:Nat}(h:j<n):(aK f n)[j]? = some (f j):=by simp[aK,h]
theorem la{f g:Nat→Rat}{n:Nat}(h:∀j,j<n→f j=g j):aK f n=aK g n:=by
 apply List.ext_getElem?
 intro j
 by_cases hj:j<n
 ·rw[dD hj,dD hj,h j hj]
 ·rw[List.getElem?_eq_none (by rw[bh];omega),List.getElem?_eq_none (by rw[bh];omega)]
theorem DO{f:Nat→Rat}{n j:Nat}(h:j<n):fn (aK f n) j=f j:=m8 (dD h)
def lZ(f g:Nat→Rat)(k:Nat)(j:Nat):Rat:=if j<k then f j else g j
theorem age{f g:Nat→Rat}{n k:Nat}:(aK (lZ f g k) n).set k (f k)=aK (lZ f g (k+1)) n:=by
 apply List.ext_getElem?
 intro j
 by_cases hj:j<n
 ·by_cases e:j=k
  ·subst e
   rw[List.getElem?_set_self (by rw[bh];exact hj),dD hj]
   simp[lZ]
  ·rw[List.getElem?_set_ne (fun e'=>e e'.symm),dD hj,dD hj]
   unfold lZ
   by_cases h:j<k
   ·rw[if_pos h,if_pos (by omega)]
   ·rw[if_neg h,if_neg (by omega)]
 ·rw[List.getElem?_eq_none (by rw[List.length_set,bh];omega),List.getElem?_eq_none (by rw[bh];omega)]
theorem WJ{f g:Nat→Rat}{n k:Nat}(h:f k=g k):aK (lZ f g k) n=aK (lZ f g (k+1)) n:=la fun j _=>by
 unfold lZ
 by_cases e:j=k
 ·subst e;rw[if_neg (by omega),if_pos (by omega),h]
 ·by_cases h':j<k
  ·rw[if_pos h',if_pos (by omega)]
  ·rw[if_neg h',if_neg (by omega)]
theorem WK{f g:Nat→Rat}{n:Nat}:aK (lZ f g 0) n=aK g n:=la fun j _=>by simp[lZ]
theorem WL{f g:Nat→Rat}{n:Nat}:aK (lZ f g n) n=aK f n:=la fun j hj=>by simp[lZ,hj]
def lC(K:Heap)(H:Heap)(g:Nat)(l:List Rat):Prop:=∃xs sz,H g=some ⟨xs,sz,121,true⟩∧bG (bQ K) 3 xs l
theorem lC.le{K K' H H':Heap}{g:Nat}{l:List Rat}(h:lC K H g l)(hl:Heap.le K K')(hs:H' g=H g):lC K' H' g l:=by
 obtain⟨xs,sz,h1,h2⟩:=h
 exact⟨xs,sz,by rw[hs];exact h1,h2.mono fun vs a=>jg _ _ vs a hl⟩
theorem lC.rd{K H:Heap}{g:Nat}{l:List Rat}(h:lC K H g l){i:Nat}{q:Rat}(hq:l[i]? = some q):∃xs n d b,Rd H (some ⟨g,0,none⟩) xs∧bQ K [.int .i64 n,.int .i64 d,.pointer b] q∧∀(j:Nat)(v:Value),[.int .i64 n,.int .i64 d,.pointer b][j]? = some v→xs[i*3+j]? = some v:=by
 obtain⟨xs,sz,h1,h2⟩:=h
 obtain⟨vs,_,h3,h4⟩:=h2.get hq
 obtain⟨n,d,b,rfl⟩:=h3.cells
 exact⟨xs,n,d,b,dQ h1,h3,h4⟩
structure Kept(gs:List Nat)(H H':Heap):Prop where
 le:Heap.le (rem H gs) (rem H' gs)
 same:∀q,q∈gs→H' q=H q
structure fU(gs:List Nat)(g:Nat)(H H':Heap):Prop where
 le:Heap.le (rem H gs) (rem H' gs)
 same:∀q,q∈gs→q≠g→H' q=H q
theorem Kept.refl(gs:List Nat)(H:Heap):Kept gs H H:=⟨.refl _,fun _ _=>rfl⟩
theorem Kept.trans{gs:List Nat}{A B C:Heap}(h:Kept gs A B)(k:Kept gs B C):Kept gs A C:=⟨h.le.trans k.le,fun q hq=>(k.same q hq).trans (h.same q hq)⟩
theorem fU.trans{gs:List Nat}{g:Nat}{A B C:Heap}(h:fU gs g A B)(k:fU gs g B C):fU gs g A C:=⟨h.le.trans k.le,fun q hq bA=>(k.same q hq bA).trans (h.same q hq bA)⟩
theorem Kept.iI{gs:List Nat}{H H':Heap}(h:Kept gs H H')(g:Nat):fU gs g H H':=⟨h.le,fun q hq _=>h.same q hq⟩
theorem fU.ins{gs:List Nat}{g:Nat}{H H':Heap}(h:fU gs g H H')(hg:g∈gs)(e:Ent):fU gs g H (ins H' g e):=
 ⟨by rw[cJ _ hg];exact h.le,fun q hq bA=>by rw[bn _ _ bA];exact h.same q hq bA⟩
theorem Kept.of{gs:List Nat}{H H':Heap}{v:Value}{bE:Value→Heap→Prop}(h:qB gs bE H v H')(hl:∀v K,bE v K→Heap.le (rem H gs) K):Kept gs H H':=⟨hl _ _ h.post,h.same⟩
theorem Kept.ne{gs:List Nat}{H H':Heap}(h:Kept gs H H')(hn:∀q,q∈gs→H q≠none):∀q,q∈gs→H' q≠none:=fun q hq=>by rw[h.same q hq];exact hn q hq
structure WM(gs:List Nat)(H:Heap)(q:Rat)(v:Value)(H':Heap):Prop where
 kept:Kept gs H H'
 le:Heap.le H H'
 val:∃n d b,v=N3 n d b∧bQ (rem H' gs) [.int .i64 n,.int .i64 d,.pointer b] q
structure FrI(gs:List Nat)(H:Heap)(x:Value)(v:Value)(H':Heap):Prop where
 kept:Kept gs H H'
 le:Heap.le H H'
 val:v=x
theorem Fn.lD{P:Program}{f:FuncId}{args:Array Value}{H:Heap}{gs:List Nat}{q:Rat}(jF:∀g,g∈gs→H g≠none)(h:Fn P f args (rem H gs) (tM (rem H gs) q)):Fn P f args H (WM gs H q):=
 (Fn.frame jF h).mono fun v H' hf=>by
  refine⟨.of hf fun v K hp=>hp.1,hf.le fun v K hp=>hp.1,?_⟩
  obtain⟨_,vs,rfl,hn⟩:=hf.post
  obtain⟨n,d,b,rfl⟩:=hn.cells
  exact⟨n,d,b,rfl,hn⟩
theorem Fn.l0{P:Program}{f:FuncId}{args:Array Value}{H:Heap}{gs:List Nat}{x:Value}(jF:∀g,g∈gs→H g≠none)(h:Fn P f args (rem H gs) (fun v H'=>Heap.le (rem H gs) H'∧v=x)):Fn P f args H (FrI gs H x):=
 (Fn.frame jF h).mono fun v H' hf=>⟨.of hf fun v K hp=>hp.1,hf.le fun v K hp=>hp.1,hf.post.2⟩
theorem lC.set{K H:Heap}{g:Nat}{f b:Nat→Rat}{n k:Nat}{xs:List Value}{sz:Nat}(h2:bG (bQ K) 3 xs (aK (lZ f b k) n))(hk:k<n){vs:List Value}(hv:bQ K vs (f k))(e:H g=some ⟨aL xs (k*3) vs,sz,121,true⟩):lC K H g (aK (lZ f b (k+1)) n):=by
 refine⟨_,_,e,?_⟩
 rw[←age]
 exact h2.set (by rw[bh];exact hk) hv hv.len
end Go.aq
namespace Go.aq
open Go.Proofs Num Lp
theorem WN{H:Heap}{gs:List Nat}{g gl gr:Nat}{ts:List Value}{Ar:Option Addr}{m cr:Nat}{sB:List Value}{row n c1 cl N:Nat}{a b:Nat→Rat}{fs:List Value}{f:Rat}
 (bA:∀q,q∈gs→H q≠none) (hg:g∈gs) (eH:gl∈gs) (DP:gr∈gs) (ua:gl≠gr) (Gu:g≠gl) (ht:H g=some ⟨ts,9,127,true⟩) (y8:ts[6]? = some (.slice Ar m cr)) (mj:Rd (rem H gs) Ar sB) (K2:row<m) (mo:sB[row]? = some (.slice (some ⟨gr,0,none⟩) n c1))
 (vz:lC (rem H gs) H gr (aK a n)) (kB:lC (rem H gs) H gl (aK b n)) (hf:bQ (rem H gs) fs f) (hN:(N:Int)≤549755813888) (hn:(n:Int)≤1099511627776) (sf:aM f≤N) (sa:∀j,j<n→aM (a j)≤N) (sb:∀j,j<n→aM (b j)≤N):
 Fn Tryz.prog 124 #[.pointer (some ⟨g,0,none⟩),.slice (some ⟨gl,0,none⟩) n cl,.int .i64 (row:Int),.agg fs.toArray] H (fun _ H'=>fU gs gl H H'∧lC (rem H' gs) H' gl (aK (fun j=>b j-f*a j) n)):=by
 obtain⟨nf,df,bf,rfl⟩:=hf.cells;refine aY (args:=[_,_,_,_]) Tryz.func124 rfl rfl Tryz.ntmps124 rfl rfl fun w0=> ?_;refine ah [0,1,2,3] rfl ?_;refine ae (bZ rfl rfl (ab [0,1,2,7] ?_));refine ao (ae (aa 1 rfl (aB rfl rfl (Fn.l0 bA (tU hf (by omega))) ?_)));rintro v1 H1 ⟨gL,bg,rfl⟩;refine aa 1 rfl (ab [0,1,2,7,12] ?_);refine aD rfl (fun hb=> ?_) (fun hb=> ?_)
 ·
  have hb:f=0:=vH (by simpa using hb);refine az ⟨.inr rfl,_,.nil,?_⟩;exact⟨gL.iI gl,by rw[la (g:=b) (fun j _=>by rw[hb];grind)];exact kB.le gL.le (gL.same gl eH)⟩
 ·
  skip
  refine aw (ah [0,1,2,7] rfl ?_);refine ae (aa 2 rfl (aV ag rfl rfl rfl (aR ag rfl rfl rfl (by rw[show cell H1 ((⟨g,0,none⟩:Addr).add 6)=ts[6]? by simp[cell,iu,gL.same g hg,ht]];exact y8) ?_)));refine aa 1 rfl (aS ag rfl rfl rfl rfl rfl ((mj.le gL.le).le (bF _ _)) (by rw[Int.toNat_natCast];exact mo) (by omega) (by omega) fun _=> ?_);refine aa 2 rfl (ab [1,7,19,20,21] ?_);have Pt:=vz.le gL.le (gL.same gr DP);have agf:=kB.le gL.le (gL.same gl eH);have iZ:=hf.le gL.le;have agh:=gL.ne bA;clear vz kB hf bA ht mj;refine aE (fI (fun(k:Nat)=>n-k) (fun(k:Nat)=>put (put (put (put (put (emp) 1 (.val (.slice (some ⟨gl,0,none⟩) n cl))) 7 (.box [.int .i64 nf,.int .i64 df,.pointer bf])) 19 (.val (.slice (some ⟨gr,0,none⟩) n c1))) 20 (.val (.int .i64 (n:Int)))) 21 (.val (.int .i64 (k:Int)))) (fun(k:Nat) H'=>fU gs gl H1 H'∧lC (rem H' gs) H' gl (aK (lZ (fun j=>b j-f*a j) b k) n)∧k≤n) 0 (⟨(Kept.refl _ _).iI _,by rw[WK];exact agf,Nat.zero_le _⟩) ar ?_);rintro k H2 ⟨fC,dg,fP⟩;have agi:=Pt.le fC.le (fC.same gr DP (Ne.symm ua));have jN:=iZ.le fC.le
  have xh:∀q,q∈gs→H2 q≠none:=fun q hq=>by
   by_cases e:q=gl
   ·
    obtain⟨xs,sz,h,_⟩:=dg;rw[e,h];simp
   ·rw[fC.same q hq e];exact agh q hq
  refine ae (aa 1 rfl (ab [1,7,19,20,21,22] ?_));refine ao (aD rfl (fun hb=> ?_) (fun hb=> ?_))
  ·
   have gw:k<n:=by simpa using hb
   obtain⟨xr,na,da,ba,oU,za,Gv⟩:=agi.rd (dD gw);obtain⟨xl,nl,dl,bl,oV,zb,cY⟩:=dg.rd (dD gw);rw[show lZ (fun j=>b j-f*a j) b k k=b k by simp[lZ]]at zb;have Pu:=sa k gw;have WO:=sb k gw;refine aw (ah [1,7,19,20,21] rfl ?_);refine ao (aE (ae (aa 1 rfl (bY (vs:=[.int .i64 na,.int .i64 da,.pointer ba]) ag rfl rfl rfl rfl oU rfl (by decide) Gv (by omega) (by omega) fun _=>(bm fh rfl (vr 1 ?_))))));obtain⟨ti,aj,ak⟩:=cL;refine aI (.inl ⟨rfl,rfl⟩) rfl rfl rfl aj ak rfl rfl rfl (ab [1,7,8,9,19,20,21] ?_);refine ae (aa 1 rfl (aB rfl rfl (Fn.l0 xh (tU za (by omega))) ?_));rintro v3 H3 ⟨dz,dK,rfl⟩;have K3:=dz.ne xh;have yt:=jN.le dz.le;have agj:=za.le dz.le;have agk:=zb.le dz.le;refine aa 1 rfl (ab [1,7,8,9,19,20,21,28] ?_);refine aD rfl (fun hb=> ?_) (fun hb=> ?_)
   ·
    skip
    refine eK .gD [0,1,2,3,4,5,6,7,8,9,10,11] follows (by kernel_rfl) ?_;refine aa 4 rfl (bY (vs:=[.int .i64 nl,.int .i64 dl,.pointer bl]) ag rfl rfl rfl rfl (oV.le dK) rfl (by decide) cY (by omega) (by omega) fun _=>(aa 2 rfl (aW rfl rfl (Fn.lD K3 (Gs (N:=N) yt agj sf Pu (by omega))) (fun _ _ h=>by first | exact h.le | exact h.1) ?_)));rintro v4 H4 ⟨gy,cM,n4,d4,b4,rfl,cn⟩;have agl:=gy.ne K3;have wC:=sk f (a k);refine aW rfl rfl (Fn.lD agl (DI (N:=2*N) (agk.le gy.le) cn (by omega) (by omega) (by omega))) (fun _ _ h=>by first | exact h.le | exact h.1) ?_;rintro v5 H5 ⟨mC,dR,n5,d5,b5,rfl,eI⟩;obtain⟨DQ,sz6,nO,Gw⟩:=(dg.le (dz.le.trans gy.le) ((gy.same gl eH).trans (dz.same gl eH))).le mC.le (mC.same gl eH);have Pv:=Gw.len;rw[bh]at Pv;obtain⟨ti,aj,ak⟩:=cL;refine cT (.inr rfl) ag rfl rfl rfl (by omega) (by omega) (nO) rfl (by show 0+n*3≤DQ.length;omega) aj ak (fun _=>rfl) rfl rfl rfl fun _=> ?_;refine au (ah [1,7,19,20,21] rfl ?_);refine aA rfl (aF rfl rfl ⟨by omega,by omega⟩ (aa 1 rfl (au ?_)));exact⟨k+1,by omega,ar,(((fC.trans (dz.iI gl)).trans (gy.iI gl)).trans (mC.iI gl)).ins eH _,by rw[cJ _ eH];exact lC.set Gw gw eI (by rw[bC,Nat.zero_add];rfl),by omega⟩
   have hz:a k=0:=vH (by simpa using hb);refine aw (ah [1,7,19,20,21] rfl ?_);refine aA rfl (aF rfl rfl ⟨by omega,by omega⟩ (aa 1 rfl (au ?_)));exact⟨k+1,by omega,ar,fC.trans (dz.iI gl),by rw[←WJ (show (fun j=>b j-f*a j) k=b k by show b k-f*a k=b k;rw[hz];grind)];exact dg.le dz.le (dz.same gl eH),by omega⟩
  have hb:n≤k:=by simpa using hb
  obtain rfl:k=n:=by omega
  refine aU ?_;refine⟨.inl rfl,_,.nil,?_⟩;exact⟨(gL.iI gl).trans fC,by rw[←WL (g:=b)];exact dg⟩
end Go.aq
namespace Go.aq
open Go.Proofs Num Lp
def ke(_:Heap)(vs:List Value)(z:Int):Prop:=vs = [.int .i64 z]
def vI(_:Heap)(vs:List Value)(k:Nat):Prop:=vs = [.int .i64 (k:Int)]
theorem lb:Up ke:=fun _ _ _ _ _ h=>h
theorem mD:Up vI:=fun _ _ _ _ _ h=>h
structure TL where
 w:Nat
 u:Nat
 plus:List Nat
 minus:List Int
 kf:List Nat
 jR:List Rat
structure TG where
 g:Nat
 cr:Nat
 Ar:Option Addr
 pv:Value
 mv:Value
 uv:Value
 sv:Value
 cv:Value
 bv:Value
 rg:List (Nat×Nat)
 cb:List Nat
 bb:List Nat
def TG.gs(G:TG):List Nat:=G.g::(G.cb++(G.bb++G.rg.map (·.1)))
def TG.cells(G:TG)(w u m:Nat):List Value:=[.int .i64 (w:Int),.int .i64 (u:Int),G.pv,G.mv,G.uv,G.sv,.slice G.Ar m G.cr,G.cv,G.bv]
def eP(B:Nat→Nat)(m:Nat):List Value:=(List.range m).map fun i=> .int .i64 (B i:Int)
theorem gQ{B:Nat→Nat}{m i:Nat}(h:i<m):(eP B m)[i]? = some (.int .i64 (B i:Int)):=by simp[eP,h]
theorem Bt(B:Nat→Nat)(m:Nat):(eP B m).length=m:=by simp[eP]
theorem WQ{B C:Nat→Nat}{m:Nat}(h:∀i,i<m→B i=C i):eP B m=eP C m:=by
 unfold eP
 apply List.map_congr_left
 intro i hi
 rw[h i (List.mem_range.1 hi)]
structure dF(H:Heap)(G:TG)(L:TL)(T:av):Prop where
 n:T.n=L.w
 uw:L.u≤L.w
 st:H G.g=some ⟨G.cells L.w L.u T.m,9,127,true⟩
 nd:G.gs.Nodup
 iC:G.rg.length=T.m
 rows:∃xs,Rd (rem H G.gs) G.Ar xs∧∀(i:Nat)(p:Nat×Nat),G.rg[i]? = some p→xs[i]? = some (.slice (some ⟨p.1,0,none⟩) (L.w+1) p.2)
 row:∀(i:Nat)(p:Nat×Nat),G.rg[i]? = some p→lC (rem H G.gs) H p.1 (aK (T.A i) (L.w+1))
 basis:(T.m=0∧G.bb = []∧G.bv = .slice none 0 0)∨∃gb cb sz,G.bb = [gb]∧G.bv = .slice (some ⟨gb,0,none⟩) T.m cb∧H gb=some ⟨eP T.B T.m,sz,3,true⟩
 plus:aN vI 1 (rem H G.gs) G.pv L.plus
 minus:aN ke 1 (rem H G.gs) G.mv L.minus
 kf:aN vI 1 (rem H G.gs) G.uv L.kf
 jR:aN bQ 3 (rem H G.gs) G.sv L.jR
 cb:∀q,q∈G.cb→H q≠none
def iR(H:Heap)(G:TG)(L:TL)(T:av):Prop:=∃gc cc,G.cb = [gc]∧G.cv = .slice (some ⟨gc,0,none⟩) (L.w+1) cc∧lC (rem H G.gs) H gc (aK T.c (L.w+1))
section
variable {H H':Heap} {G:TG} {L:TL} {T:av}
theorem TG.sC(G:TG):G.g∈G.gs:=List.mem_cons_self ..
theorem TG.zc{G:TG}{q:Nat}(h:q∈G.cb):q∈G.gs:=List.mem_cons_of_mem _ (List.mem_append_left _ h)
theorem TG.mE{G:TG}{q:Nat}(h:q∈G.bb):q∈G.gs:=List.mem_cons_of_mem _ (List.mem_append_right _ (List.mem_append_left _ h))
theorem TG.gS{G:TG}{i:Nat}{p:Nat×Nat}(h:G.rg[i]? = some p):p.1∈G.gs:=List.mem_cons_of_mem _ (List.mem_append_right _ (List.mem_append_right _ (List.mem_map.2 ⟨p,List.mem_of_getElem? h,rfl⟩)))
theorem dF.ne(h:dF H G L T):∀q,q∈G.gs→H q≠none:=fun q hq=>by
 rcases List.mem_cons.1 hq with rfl | hq
 ·rw[h.st];simp
 ·rcases List.mem_append.1 hq with hq | hq
  ·exact h.cb q hq
  ·rcases List.mem_append.1 hq with hq | hq
   ·rcases h.basis with ⟨_,h1,_⟩ | ⟨gb,cb,sz,h1,_,h2⟩
    ·rw[h1]at hq;cases hq
    ·rw[h1,List.mem_singleton]at hq
     rw[hq,h2];simp
   ·obtain⟨p,hp,rfl⟩:=List.mem_map.1 hq
    obtain⟨i,hi⟩:=List.getElem?_of_mem hp
    obtain⟨xs,sz,h1,_⟩:=h.row i p hi
    rw[h1];simp
theorem dF.cell(h:dF H G L T){k:Nat}{v:Value}(hk:(G.cells L.w L.u T.m)[k]? = some v):aq.cell H ((⟨G.g,0,none⟩:Addr).add k)=some v:=by
 simp[aq.cell,iu,h.st,hk]
theorem dF.iS(h:dF H G L T):aq.cell H (⟨G.g,0,none⟩:Addr)=some (.int .i64 (L.w:Int)):=by
 have:=h.cell (k:=0) (v:= .int .i64 (L.w:Int)) rfl
 rwa [iu]at this
theorem TG.Bu{G:TG}(h:G.gs.Nodup){q:Nat}(hq:q∈G.cb∨q∈G.bb∨∃(i:Nat)(p:Nat×Nat),G.rg[i]? = some p∧p.1=q):G.g≠q:=by
 have h1:=(List.nodup_cons.1 h).1
 intro e
 subst e
 apply h1
 rcases hq with hq | hq | ⟨i,p,hp,he⟩
 ·exact List.mem_append_left _ hq
 ·exact List.mem_append_right _ (List.mem_append_left _ hq)
 ·exact List.mem_append_right _ (List.mem_append_right _ (List.mem_map.2 ⟨p,List.mem_of_getElem? hp,he⟩))
theorem TG.Bv{G:TG}(h:G.gs.Nodup){q r:Nat}(hq:q∈G.cb)(hr:r∈G.bb∨∃(i:Nat)(p:Nat×Nat),G.rg[i]? = some p∧p.1=r):q≠r:=by
 have h1:=(List.nodup_append.1 (List.nodup_cons.1 h).2).2.2 q hq
 refine h1 r ?_
 rcases hr with hr | ⟨i,p,hp,he⟩
 ·exact List.mem_append_left _ hr
 ·exact List.mem_append_right _ (List.mem_map.2 ⟨p,List.mem_of_getElem? hp,he⟩)
theorem TG.Gx{G:TG}(h:G.gs.Nodup){q:Nat}(hq:q∈G.bb){i:Nat}{p:Nat×Nat}(hp:G.rg[i]? = some p):q≠p.1:=
 (List.nodup_append.1 (List.nodup_append.1 (List.nodup_cons.1 h).2).2.1).2.2 q hq p.1 (List.mem_map.2 ⟨p,List.mem_of_getElem? hp,rfl⟩)
theorem TG.K4{G:TG}(h:G.gs.Nodup){i j:Nat}{p q:Nat×Nat}(hp:G.rg[i]? = some p)(hq:G.rg[j]? = some q)(bA:i≠j):p.1≠q.1:=by
 have h1:=(List.nodup_append.1 (List.nodup_append.1 (List.nodup_cons.1 h).2).2.1).2.1
 intro e
 have hi:(G.rg.map (·.1))[i]? = some p.1:=by rw[List.getElem?_map,hp];rfl
 have hj:(G.rg.map (·.1))[j]? = some p.1:=by rw[List.getElem?_map,hq,e];rfl
 obtain⟨hi1,rO⟩:=List.getElem?_eq_some_iff.1 hi
 obtain⟨qw,tJ⟩:=List.getElem?_eq_some_iff.1 hj
 exact bA ((List.getElem_inj h1).1 (rO.trans tJ.symm))
theorem dF.kept(h:dF H G L T)(k:Kept G.gs H H'):dF H' G L T where
 n:=h.n
 uw:=h.uw
 st:=by rw[k.same _ G.sC];exact h.st
 nd:=h.nd
 iC:=h.iC
 rows:=by obtain⟨xs,h1,h2⟩:=h.rows;exact⟨xs,h1.le k.le,h2⟩
 row:=fun i p hp=>(h.row i p hp).le k.le (k.same _ (TG.gS hp))
 basis:=by
  rcases h.basis with h1 | ⟨gb,cb,sz,h1,h2,h3⟩
  ·exact .inl h1
  ·exact .inr ⟨gb,cb,sz,h1,h2,by rw[k.same _ (TG.mE (by rw[h1];exact List.mem_singleton.2 rfl))];exact h3⟩
 plus:=h.plus.le mD k.le
 minus:=h.minus.le lb k.le
 kf:=h.kf.le mD k.le
 jR:=h.jR.le jg k.le
 cb:=fun q hq=>by rw[k.same _ (TG.zc hq)];exact h.cb q hq
theorem iR.kept(h:iR H G L T)(k:Kept G.gs H H'):iR H' G L T:=by
 obtain⟨gc,cc,h1,h2,h3⟩:=h
 exact⟨gc,cc,h1,h2,h3.le k.le (k.same _ (TG.zc (by rw[h1];exact List.mem_singleton.2 rfl)))⟩
theorem dF.congr{T':av}(h:dF H G L T)(hm:T'.m=T.m)(hn:T'.n=T.n)(hA:∀i,i<T.m→∀j,j≤T.n→T'.A i j=T.A i j)(hB:∀i,i<T.m→T'.B i=T.B i):dF H G L T' where
 n:=hn.trans h.n
 uw:=h.uw
 st:=by rw[hm];exact h.st
 nd:=h.nd
 iC:=h.iC.trans hm.symm
 rows:=h.rows
 row:=fun i p hp=>by
  have hi:i<T.m:=by rw[←h.iC];exact(List.getElem?_eq_some_iff.1 hp).1
  rw[la (g:=T.A i) (fun j hj=>hA i hi j (by rw[h.n];omega))];exact h.row i p hp
 basis:=by
  rw[hm,WQ hB];exact h.basis
 plus:=h.plus
 minus:=h.minus
 kf:=h.kf
 jR:=h.jR
 cb:=h.cb
theorem iR.congr{T':av}(h:iR H G L T)(hc:∀j,j≤L.w→T'.c j=T.c j):iR H G L T':=by
 obtain⟨gc,cc,h1,h2,h3⟩:=h
 exact⟨gc,cc,h1,h2,by rw[la (g:=T.c) (fun j hj=>hc j (by omega))];exact h3⟩
def _root_.Lp.av.setRow(T:av)(i:Nat)(f:Nat→Rat):av:={T with A:=fun k=>if k=i then f else T.A k}
theorem dF.setRow(h:dF H G L T){i:Nat}{p:Nat×Nat}(hp:G.rg[i]? = some p)(k:fU G.gs p.1 H H'){f:Nat→Rat}(hb:lC (rem H' G.gs) H' p.1 (aK f (L.w+1))):dF H' G L (T.setRow i f) where
 n:=h.n
 uw:=h.uw
 st:=by rw[k.same _ G.sC (TG.Bu h.nd (.inr (.inr ⟨i,p,hp,rfl⟩)))];exact h.st
 nd:=h.nd
 iC:=h.iC
 rows:=by obtain⟨xs,h1,h2⟩:=h.rows;exact⟨xs,h1.le k.le,h2⟩
 row:=fun j q hq=>by
  by_cases e:j=i
  ·subst e
   rw[hp]at hq
   cases hq
   simp only[av.setRow,if_true]
   exact hb
  ·simp only[av.setRow,if_neg e]
   exact(h.row j q hq).le k.le (k.same _ (TG.gS hq) (TG.K4 h.nd hq hp e))
 basis:=by
  rcases h.basis with h1 | ⟨gb,cb,sz,h1,h2,h3⟩
  ·exact .inl h1
  ·have hm:gb∈G.bb:=by rw[h1];exact List.mem_singleton.2 rfl
   exact .inr ⟨gb,cb,sz,h1,h2,by rw[k.same _ (TG.mE hm) (TG.Gx h.nd hm hp)];exact h3⟩
 plus:=h.plus.le mD k.le
 minus:=h.minus.le lb k.le
 kf:=h.kf.le mD k.le
 jR:=h.jR.le jg k.le
 cb:=fun q hq=>by rw[k.same _ (TG.zc hq) (TG.Bv h.nd hq (.inr ⟨i,p,hp,rfl⟩))];exact h.cb q hq
theorem iR.setRow(h:iR H G L T)(nd:G.gs.Nodup){i:Nat}{p:Nat×Nat}(hp:G.rg[i]? = some p)(k:fU G.gs p.1 H H')(f:Nat→Rat):iR H' G L (T.setRow i f):=by
 obtain⟨gc,cc,h1,h2,h3⟩:=h
 have hm:gc∈G.cb:=by rw[h1];exact List.mem_singleton.2 rfl
 exact⟨gc,cc,h1,h2,h3.le k.le (k.same _ (TG.zc hm) (TG.Bv nd hm (.inr ⟨i,p,hp,rfl⟩)))⟩
theorem dF.agm(h:dF H G L T){gc:Nat}(hc:G.cb = [gc])(k:fU G.gs gc H H'){f:Nat→Rat}(hb:lC (rem H' G.gs) H' gc (aK f (L.w+1))):dF H' G L {T with c:=f}:=by
 have hm:gc∈G.cb:=by rw[hc];exact List.mem_singleton.2 rfl
 exact
 {n:=h.n
  uw:=h.uw
  st:=by rw[k.same _ G.sC (TG.Bu h.nd (.inl hm))];exact h.st
  nd:=h.nd
  iC:=h.iC
  rows:=by obtain⟨xs,h1,h2⟩:=h.rows;exact⟨xs,h1.le k.le,h2⟩
  row:=fun j q hq=>(h.row j q hq).le k.le (k.same _ (TG.gS hq) (fun e=>TG.Bv h.nd hm (.inr ⟨j,q,hq,rfl⟩) e.symm))
  basis:=by
   rcases h.basis with h1 | ⟨gb,cb,sz,h1,h2,h3⟩
   ·exact .inl h1
   ·have bL:gb∈G.bb:=by rw[h1];exact List.mem_singleton.2 rfl
    exact .inr ⟨gb,cb,sz,h1,h2,by rw[k.same _ (TG.mE bL) (fun e=>TG.Bv h.nd hm (.inl bL) e.symm)];exact h3⟩
  plus:=h.plus.le mD k.le
  minus:=h.minus.le lb k.le
  kf:=h.kf.le mD k.le
  jR:=h.jR.le jg k.le
  cb:=fun q hq=>by
   rw[hc,List.mem_singleton]at hq
   obtain⟨xs,sz,h1,_⟩:=hb
   rw[hq,h1];simp}
theorem dF.DR(h:dF H G L T){gb cb sz:Nat}(hb:G.bb = [gb])(hv:G.bv = .slice (some ⟨gb,0,none⟩) T.m cb){r s:Nat}{e:Ent}(he:e=⟨eP (fun i=>if i=r then s else T.B i) T.m,sz,3,true⟩):dF (ins H gb e) G L {T with B:=fun i=>if i=r then s else T.B i}:=by
 have hm:gb∈G.bb:=by rw[hb];exact List.mem_singleton.2 rfl
 have k:fU G.gs gb H (ins H gb e):=((Kept.refl _ _).iI gb).ins (TG.mE hm) e
 exact
 {n:=h.n
  uw:=h.uw
  st:=by rw[k.same _ G.sC (TG.Bu h.nd (.inr (.inl hm)))];exact h.st
  nd:=h.nd
  iC:=h.iC
  rows:=by obtain⟨xs,h1,h2⟩:=h.rows;exact⟨xs,h1.le k.le,h2⟩
  row:=fun j q hq=>(h.row j q hq).le k.le (k.same _ (TG.gS hq) (fun e=>TG.Gx h.nd hm hq e.symm))
  basis:= .inr ⟨gb,cb,sz,hb,hv,by rw[bC,he]⟩
  plus:=h.plus.le mD k.le
  minus:=h.minus.le lb k.le
  kf:=h.kf.le mD k.le
  jR:=h.jR.le jg k.le
  cb:=fun q hq=>by rw[k.same _ (TG.zc hq) (TG.Bv h.nd hq (.inl hm))];exact h.cb q hq}
theorem iR.DR(h:iR H G L T)(nd:G.gs.Nodup){gb:Nat}(hb:G.bb = [gb])(e:Ent)(B:Nat→Nat):iR (ins H gb e) G L {T with B:=B}:=by
 have hm:gb∈G.bb:=by rw[hb];exact List.mem_singleton.2 rfl
 have k:fU G.gs gb H (ins H gb e):=((Kept.refl _ _).iI gb).ins (TG.mE hm) e
 obtain⟨gc,cc,h1,h2,h3⟩:=h
 have WR:gc∈G.cb:=by rw[h1];exact List.mem_singleton.2 rfl
 exact⟨gc,cc,h1,h2,h3.le k.le (k.same _ (TG.zc WR) (TG.Bv nd WR (.inl hm)))⟩
structure Sz(N:Nat)(T:av):Prop where
 A:∀i,i<T.m→∀j,j≤T.n→aM (T.A i j)≤N
 c:∀j,j≤T.n→aM (T.c j)≤N
end
end Go.aq
namespace Go.aq
open Go.Proofs Num Lp
section
variable {H:Heap} {G:TG} {L:TL} {T:av} {N:Nat} {fs:List Value} {f:Rat}
theorem agn(h:dF H G L T){i r:Nat}{p q:Nat×Nat}(hp:G.rg[i]? = some p)(hq:G.rg[r]? = some q)(bA:i≠r)(hf:bQ (rem H G.gs) fs f)(hN:(N:Int)≤549755813888)(hw:(L.w:Int)≤1000000)(sf:aM f≤N)(si:∀j,j≤L.w→aM (T.A i j)≤N)(sr:∀j,j≤L.w→aM (T.A r j)≤N):
  Fn Tryz.prog 124 #[.pointer (some ⟨G.g,0,none⟩),.slice (some ⟨p.1,0,none⟩) (L.w+1) p.2,.int .i64 (r:Int),.agg fs.toArray] H (fun _ H'=>dF H' G L (T.setRow i (fun j=>T.A i j-f*T.A r j))∧fU G.gs p.1 H H'):=by
 obtain⟨sB,mj,mo⟩:=h.rows
 refine(WN (N:=N) h.ne G.sC (TG.gS hp) (TG.gS hq) (TG.K4 h.nd hp hq bA) (TG.Bu h.nd (.inr (.inr ⟨i,p,hp,rfl⟩))) h.st rfl mj ?_ (mo r q hq) (h.row r q hq) (h.row i p hp) hf hN (by omega) sf (fun j hj=>sr j (by omega)) (fun j hj=>si j (by omega))).mono fun v H' hh=>⟨h.setRow hp hh.1 hh.2,hh.1⟩
 rw[←h.iC];exact(List.getElem?_eq_some_iff.1 hq).1
theorem WS(h:dF H G L T)(hc:iR H G L T){r:Nat}{q:Nat×Nat}(hq:G.rg[r]? = some q)(hf:bQ (rem H G.gs) fs f)(hN:(N:Int)≤549755813888)(hw:(L.w:Int)≤1000000)(sf:aM f≤N)(si:∀j,j≤L.w→aM (T.c j)≤N)(sr:∀j,j≤L.w→aM (T.A r j)≤N):
  Fn Tryz.prog 124 #[.pointer (some ⟨G.g,0,none⟩),G.cv,.int .i64 (r:Int),.agg fs.toArray] H (fun _ H'=>dF H' G L {T with c:=fun j=>T.c j-f*T.A r j}∧iR H' G L {T with c:=fun j=>T.c j-f*T.A r j}∧Heap.le (rem H G.gs) (rem H' G.gs)):=by
 obtain⟨sB,mj,mo⟩:=h.rows
 obtain⟨gc,cc,h1,h2,h3⟩:=hc
 have hm:gc∈G.cb:=by rw[h1];exact List.mem_singleton.2 rfl
 rw[h2]
 refine(WN (N:=N) h.ne G.sC (TG.zc hm) (TG.gS hq) (TG.Bv h.nd hm (.inr ⟨r,q,hq,rfl⟩)) (TG.Bu h.nd (.inl hm)) h.st rfl mj ?_ (mo r q hq) (h.row r q hq) h3 hf hN (by omega) sf (fun j hj=>sr j (by omega)) (fun j hj=>si j (by omega))).mono fun v H' hh=>⟨h.agm h1 hh.1 hh.2,⟨gc,cc,h1,h2,hh.2⟩,hh.1.le⟩
 rw[←h.iC];exact(List.getElem?_eq_some_iff.1 hq).1
end
theorem Pw{B:Nat→Nat}{m r s:Nat}:(eP B m).set r (.int .i64 (s:Int))=eP (fun i=>if i=r then s else B i) m:=by
 apply List.ext_getElem?
 intro i
 by_cases hi:i<m
 ·by_cases e:i=r
  ·subst e
   rw[List.getElem?_set_self (by rw[Bt];exact hi),gQ hi,if_pos rfl]
  ·rw[List.getElem?_set_ne (fun e'=>e e'.symm),gQ hi,gQ hi,if_neg e]
 ·rw[List.getElem?_eq_none (by rw[List.length_set,Bt];omega),List.getElem?_eq_none (by rw[Bt];omega)]
def lE(T:av)(r s k:Nat):av:={T with A:=fun i=>if i=r then(fun j=>T.A r j/T.A r s)else if i<k then(fun j=>T.A i j-T.A i s*(T.A r j/T.A r s))else T.A i}
theorem ago{T:av}{r s k:Nat}(hk:k≠r)(i j:Nat):(lE T r s (k+1)).A i j=((lE T r s k).setRow k (fun j=>(lE T r s k).A k j-T.A k s*(lE T r s k).A r j)).A i j:=by
 unfold av.setRow lE
 simp only
 by_cases e1:i=k
 ·subst e1
  rw[if_neg hk,if_pos (by omega),if_pos rfl,if_neg hk,if_neg (by omega),if_pos trivial]
 ·rw[if_neg e1]
  by_cases e2:i=r
  ·rw[if_pos e2,if_pos e2]
  ·rw[if_neg e2,if_neg e2]
   by_cases e3:i<k
   ·rw[if_pos (by omega),if_pos e3]
   ·rw[if_neg (by omega),if_neg e3]
theorem agp{T:av}{r s k:Nat}(hk:k=r)(i j:Nat):(lE T r s (k+1)).A i j=(lE T r s k).A i j:=by
 unfold lE
 simp only
 by_cases e2:i=r
 ·rw[if_pos e2,if_pos e2]
 ·rw[if_neg e2,if_neg e2]
  by_cases e3:i<k
  ·rw[if_pos (by omega),if_pos e3]
  ·rw[if_neg (by omega),if_neg e3]
theorem dF.get{H:Heap}{G:TG}{L:TL}{T:av}(h:dF H G L T){i:Nat}(hi:i<T.m):∃p,G.rg[i]? = some p:=⟨_,List.getElem?_eq_getElem (by rw[h.iC];exact hi)⟩
theorem WT{H:Heap}{G:TG}{L:TL}{T:av}{N r s:Nat}(h:dF H G L T)(hc:iR H G L T)(hr:r<T.m)(hs:s<L.w)(hp:T.A r s≠0)(hz:Sz N T)(Px:Sz N (T.pivot r s))(hN:(N:Int)≤549755813888)(hw:(L.w:Int)≤1000000)(hm:(T.m:Int)≤1000000):
 Fn Tryz.prog 127 #[.pointer (some ⟨G.g,0,none⟩),.int .i64 (r:Int),.int .i64 (s:Int)] H (fun _ H'=>dF H' G L (T.pivot r s)∧iR H' G L (T.pivot r s)∧Heap.le (rem H G.gs) (rem H' G.gs)):=by
 obtain⟨pr,cZ⟩:=h.get hr
 obtain⟨sB,mj,mo⟩:=h.rows
 have mB:s≤T.n:=by rw[h.n];omega
 have WU:∀j,j≤L.w→aM (T.A r j/T.A r s)≤N:=fun j hj=>by
  have:=Px.A r hr j (by show j≤T.n;rw[h.n];exact hj)
  simpa [av.pivot]using this
 have K5:∀i,i<T.m→∀j,j≤L.w→aM (T.A i j)≤N:=fun i hi j hj=>hz.A i hi j (by rw[h.n];exact hj)
 obtain⟨xp,np,dp,bp,gT,hnp,ld⟩:=(h.row r pr cZ).rd (dD (show s<L.w+1 by omega));refine aY (args:=[_,_,_]) Tryz.func127 rfl rfl Tryz.ntmps127 rfl rfl fun w0=> ?_;refine ah [0,1,2] rfl ?_;refine ae (aa 2 rfl (aV ag rfl rfl rfl (aR ag rfl rfl rfl (h.cell rfl) (aa 1 rfl (aS ag rfl rfl rfl rfl rfl (mj.le (bF _ _)) (by rw[Int.toNat_natCast];exact mo r pr cZ) (by omega) (by omega) fun _=> ?_)))));refine aa 1 rfl (ab [0,1,2,6] ?_);refine ae (aa 2 rfl (bY (vs:=[.int .i64 np,.int .i64 dp,.pointer bp]) ag rfl rfl rfl rfl gT rfl (by decide) (by rw[Int.toNat_natCast];exact ld) (by omega) (by omega) fun _=> ?_));refine bm fh rfl ?_;obtain⟨ti,aj,ak⟩:=cL;refine aI (.inl ⟨rfl,rfl⟩) rfl rfl rfl aj ak rfl rfl rfl (ab [0,1,2,6,7] ?_);refine ao (ae (aa 3 rfl (ab [0,1,2,6,7,23,24,25] ?_)));refine aE (fI (fun(k:Nat)=>L.w+1-k) (fun(k:Nat)=>put (put (put (put (put (put (put (put (emp) 0 (.val (.pointer (some ⟨G.g,0,none⟩)))) 1 (.val (.int .i64 (r:Int)))) 2 (.val (.int .i64 (s:Int)))) 6 (.val (.slice (some ⟨pr.1,0,none⟩) (L.w+1) pr.2))) 7 (.box [.int .i64 np,.int .i64 dp,.pointer bp])) 23 (.val (.slice (some ⟨pr.1,0,none⟩) (L.w+1) pr.2))) 24 (.val (.int .i64 ((L.w+1:Nat):Int)))) 25 (.val (.int .i64 (k:Int)))) (fun(k:Nat) H'=>fU G.gs pr.1 H H'∧lC (rem H' G.gs) H' pr.1 (aK (lZ (fun j=>T.A r j/T.A r s) (T.A r) k) (L.w+1))∧k≤L.w+1) 0 (⟨(Kept.refl _ _).iI _,by rw[WK];exact h.row r pr cZ,Nat.zero_le _⟩) ar ?_)
 rintro k H2 ⟨fC,dg,fP⟩;have agq:=hnp.le fC.le
 have xh:∀q,q∈G.gs→H2 q≠none:=fun q hq=>by
  by_cases e:q=pr.1
  ·
   obtain⟨xs,sz,h,_⟩:=dg;rw[e,h];simp
  ·rw[fC.same q hq e];exact h.ne q hq
 refine ae (aa 1 rfl (ab [0,1,2,6,7,23,24,25,26] ?_));refine ao (aD rfl (fun hb=> ?_) (fun hb=> ?_))
 ·
  have gw:k<L.w+1:=by simp at hb;omega
  obtain⟨xl,nl,dl,bl,oV,zb,cY⟩:=dg.rd (dD gw);rw[show lZ (fun j=>T.A r j/T.A r s) (T.A r) k k=T.A r k by simp[lZ]]at zb;have Pu:=K5 r hr k (by omega);have WO:=K5 r hr s (by omega);refine aw (ah [0,1,2,6,7,23,24,25] rfl ?_);refine ao (aE (ae (aa 1 rfl (bY (vs:=[.int .i64 nl,.int .i64 dl,.pointer bl]) ag rfl rfl rfl rfl oV rfl (by decide) cY (by omega) (by omega) fun _=>(bm fh rfl (vr 1 ?_))))));obtain⟨ti,aj,ak⟩:=cL;refine aI (.inl ⟨rfl,rfl⟩) rfl rfl rfl aj ak rfl rfl rfl (ab [0,1,2,6,7,8,9,23,24,25] ?_);refine ae (aa 1 rfl (aB rfl rfl (Fn.l0 xh (tU zb (by omega))) ?_));rintro v3 H3 ⟨dz,dK,rfl⟩;have K3:=dz.ne xh;refine aa 1 rfl (ab [0,1,2,6,7,8,9,23,24,25,32] ?_);refine aD rfl (fun hb=> ?_) (fun hb=> ?_)
  ·
   skip
   refine aA rfl (aa 4 rfl (aB rfl rfl (Fn.lD K3 (WA (N:=N) (zb.le dz.le) (agq.le dz.le) Pu WO (by omega) hp)) ?_));rintro v4 H4 ⟨gy,cM,n4,d4,b4,rfl,cn⟩;obtain⟨DQ,sz6,nO,Gw⟩:=dg.le (dz.le.trans gy.le) ((gy.same _ (TG.gS cZ)).trans (dz.same _ (TG.gS cZ)));have Pv:=Gw.len;rw[bh]at Pv;obtain⟨ti,aj,ak⟩:=cL;refine cT (.inl rfl) ag rfl rfl rfl (by omega) (by omega) (nO) rfl (by show 0+(L.w+1)*3≤DQ.length;omega) aj ak (fun _=>rfl) rfl rfl rfl fun _=> ?_;refine au (ah [0,1,2,6,7,23,24,25] rfl ?_);refine aA rfl (aF rfl rfl ⟨by omega,by omega⟩ (aa 1 rfl (au ?_)));exact⟨k+1,by omega,ar,((fC.trans (dz.iI _)).trans (gy.iI _)).ins (TG.gS cZ) _,by rw[cJ _ (TG.gS cZ)];exact lC.set Gw gw cn (by rw[bC,Nat.zero_add];rfl),by omega⟩
  ·
   have jh:T.A r k=0:=vH (by simpa using hb);refine aw (ah [0,1,2,6,7,23,24,25] rfl ?_);refine aA rfl (aF rfl rfl ⟨by omega,by omega⟩ (aa 1 rfl (au ?_)));exact⟨k+1,by omega,ar,fC.trans (dz.iI _),by rw[←WJ (show (fun j=>T.A r j/T.A r s) k=T.A r k by show T.A r k/T.A r s=T.A r k;rw[jh,Rat.div_def,Rat.zero_mul])];exact dg.le dz.le (dz.same _ (TG.gS cZ)),by omega⟩
 ·
  have hb:L.w+1≤k:=by simp at hb;omega
  obtain rfl:k=L.w+1:=by omega
  rw[WL]at dg;have ga:=fC.le;have pN:=(hc.setRow h.nd cZ fC (fun j=>T.A r j/T.A r s)).congr (T':=lE T r s 0) (fun j _=>rfl);have h3:=(h.setRow cZ fC dg).congr (T':=lE T r s 0) rfl rfl (fun i hi j hj=>by simp only[lE,av.setRow];split <;> rfl) (fun i hi=>rfl);refine aU (ah [0,1,2] rfl ?_);refine ao (ae (aa 2 rfl (aV ag rfl rfl rfl (aR ag rfl rfl rfl (h3.cell rfl) (aa 2 rfl (ab [0,1,2,43,44,45] ?_))))));refine aE (fI (fun(k:Nat)=>T.m-k) (fun(k:Nat)=>put (put (put (put (put (put (emp) 0 (.val (.pointer (some ⟨G.g,0,none⟩)))) 1 (.val (.int .i64 (r:Int)))) 2 (.val (.int .i64 (s:Int)))) 43 (.val (.slice G.Ar T.m G.cr))) 44 (.val (.int .i64 (T.m:Int)))) 45 (.val (.int .i64 (k:Int)))) (fun(k:Nat) H'=>dF H' G L (lE T r s k)∧iR H' G L (lE T r s k)∧Heap.le (rem H G.gs) (rem H' G.gs)∧k≤T.m) 0 (⟨h3,pN,ga,Nat.zero_le _⟩) ar ?_);rintro k H4 ⟨h4,mq,kC,gy⟩;refine ae (aa 1 rfl (ab [0,1,2,43,44,45,46] ?_));refine ao (aD rfl (fun hb=> ?_) (fun hb=> ?_))
  ·
   have fV:k<T.m:=by simpa using hb
   obtain⟨pk,qH⟩:=h.get fV;obtain⟨xs4,Bw,k8⟩:=h4.rows;refine aw (ah [0,1,2,43,44,45] rfl ?_);refine ao (aE (ae (aa 1 rfl (aS ag rfl rfl rfl rfl rfl (Bw.le (bF _ _)) (by rw[Int.toNat_natCast];exact k8 k pk qH) (by omega) (by omega) fun _=> ?_))));refine aa 2 rfl (ab [0,1,2,10,11,43,44,45] ?_);refine ae (aa 3 rfl (ab [0,1,2,11,43,44,45,52] ?_));refine aD rfl (fun hb=> ?_) (fun hb=> ?_)
   ·
    have tK:k≠r:=by simp at hb;omega
    obtain⟨xk,nk,dk,bk,K6,Gy,ub⟩:=(h4.row k pk qH).rd (dD (show s<L.w+1 by omega));rw[show (lE T r s k).A k s=T.A k s by simp[lE,tK]]at Gy;refine aA rfl (aa 5 rfl (bY (vs:=[.int .i64 nk,.int .i64 dk,.pointer bk]) ag rfl rfl rfl rfl K6 rfl (by decide) (by rw[Int.toNat_natCast];exact ub) (by omega) (by omega) fun _=> ?_));refine aB rfl rfl (agn (N:=N) h4 qH cZ tK Gy hN hw (K5 k fV s (by omega)) (fun j hj=>by simpa [lE,tK]using K5 k fV j hj) (fun j hj=>by simpa [lE]using WU j hj)) ?_;rintro v5 H5 ⟨h5,xo⟩;refine au (ah [0,1,2,43,44,45] rfl ?_);refine aA rfl (aF rfl rfl ⟨by omega,by omega⟩ (aa 1 rfl (au ?_)));exact⟨k+1,by omega,ar,h5.congr rfl rfl (fun i hi j hj=>ago tK i j) (fun i hi=>rfl),(mq.setRow h4.nd qH xo (fun _=>0)).congr (fun j _=>rfl),kC.trans xo.le,by omega⟩
   have tK:k=r:=by simp at hb;omega
   refine aw (ah [0,1,2,43,44,45] rfl ?_);refine aA rfl (aF rfl rfl ⟨by omega,by omega⟩ (aa 1 rfl (au ?_)));exact⟨k+1,by omega,ar,h4.congr rfl rfl (fun i hi j hj=>agp tK i j) (fun i hi=>rfl),mq.congr (fun j _=>rfl),kC,by omega⟩
  have hb:T.m≤k:=by simpa using hb
  obtain rfl:k=T.m:=by omega
  obtain⟨gc,cc,DS,bo,By⟩:=id mq;obtain⟨xc,nc,dc,bc,nP,yz,uc⟩:=By.rd (dD (show s<L.w+1 by omega))
  have jt:cell H4 ((⟨G.g,0,none⟩:Addr).add 7)=some (.slice (some ⟨gc,0,none⟩) (L.w+1) cc):=by rw[←bo];exact h4.cell rfl
  refine aU (ah [0,1,2] rfl ?_);refine bN .vf [0,1,2,3,4,5,6,7,8,9,10,11,12,13] follows (by kernel_rfl) ?_;refine aa 3 rfl (aV ag rfl rfl rfl (aR ag rfl rfl rfl (jt) (aa 3 rfl (aV ag rfl rfl rfl (aR ag rfl rfl rfl (jt) (aa 1 rfl (bY (vs:=[.int .i64 nc,.int .i64 dc,.pointer bc]) ag rfl rfl rfl rfl nP rfl (by decide) (by rw[Int.toNat_natCast];exact uc) (by omega) (by omega) fun _=> ?_)))))));refine VS rfl rfl (by rw[←bo];exact WS (N:=N) h4 mq cZ yz hN hw (hz.c s mB) (fun j hj=>hz.c j (by rw[h.n];exact hj)) (fun j hj=>by simpa [lE]using WU j hj)) ?_;rintro v6 H6 ⟨h6,pT,sD⟩
  obtain⟨gb,cb,sz,lz,dy,a6⟩:∃gb cb sz,G.bb = [gb]∧G.bv = .slice (some ⟨gb,0,none⟩) T.m cb∧H6 gb=some ⟨eP T.B T.m,sz,3,true⟩:=by
   rcases h6.basis with h7 | h7
   ·
    have h8:T.m=0:=h7.1
    omega
   ·exact h7
  refine ab [0,1,2] ?_;refine aA rfl (aa 2 rfl (aV ag rfl rfl rfl (aR ag rfl rfl rfl (show cell H6 _=some (.slice (some ⟨gb,0,none⟩) T.m cb)from by rw[←dy];exact h6.cell rfl) ?_)));refine vr 2 ?_;obtain⟨ti,aj,ak⟩:=vq;refine cT (.inl rfl) ag rfl rfl rfl (by omega) (by omega) (a6) rfl (by show 0+T.m*1≤(eP T.B T.m).length;rw[Bt];omega) aj ak (fun _=>rfl) rfl rfl rfl fun _=> ?_;refine au ?_;refine⟨.inl rfl,_,.nil,?_⟩
  have he:({(⟨eP T.B T.m,sz,3,true⟩:Ent)with xs:=aL (eP T.B T.m) (0+((r:Int)).toNat*1) [.int .i64 (s:Int)]}:Ent)=⟨eP (fun i=>if i=r then s else T.B i) T.m,sz,3,true⟩:=by
   rw[Int.toNat_natCast,Nat.mul_one,Nat.zero_add,←Pw];rfl
  refine⟨(h6.DR (r:=r) (s:=s) (sz:=sz) lz dy he).congr (T':=T.pivot r s) rfl rfl (fun i hi j hj=> ?_) (fun i hi=>rfl),(pT.DR h6.nd lz _ (fun _=>0)).congr (T':=T.pivot r s) (fun j hj=> ?_),?_⟩
  ·
   have eZ:i<T.m:=hi
   simp only[av.pivot,lE]
   by_cases e:i=r
   ·simp[e]
   ·simp[e,eZ]
  ·simp[av.pivot,lE]
  have K7:gb∈G.gs:=TG.mE (by rw[lz];exact List.mem_singleton.2 rfl);rw[cJ _ K7];exact kC.trans sD
end Go.aq
namespace Go.aq
open Go.Proofs Num Lp
theorem ue{q:Rat}:0≤eY q↔0≤q:=by
 unfold eY
 by_cases h:q<0
 ·rw[if_pos h];constructor <;> intro h' <;> first | omega | grind
 ·rw[if_neg h]
  by_cases e:q=0
  ·rw[if_pos e];constructor <;> intro h' <;> first | omega | grind
  ·rw[if_neg e];constructor <;> intro h' <;> first | omega | grind
theorem Py{q:Rat}:eY q≤0↔q≤0:=by
 unfold eY
 by_cases h:q<0
 ·rw[if_pos h];constructor <;> intro h' <;> first | omega | grind
 ·rw[if_neg h]
  by_cases e:q=0
  ·rw[if_pos e];constructor <;> intro h' <;> first | omega | grind
  ·rw[if_neg e];constructor <;> intro h' <;> first | omega | grind
theorem Gz{q:Rat}:eY q<0↔q<0:=by
 have:=ue (q:=q)
 constructor
 ·intro h;false_or_by_contra;have:=this.2 (by grind);omega
 ·intro h;false_or_by_contra;have:=this.1 (by omega);grind
theorem DT{q:Rat}:0<eY q↔0<q:=by
 have:=Py (q:=q)
 constructor
 ·intro h;false_or_by_contra;have:=this.2 (by grind);omega
 ·intro h;false_or_by_contra;have:=this.1 (by omega);grind
theorem ug{q:Rat}:eY q=0↔q=0:=by
 constructor
 ·exact vH
 ·intro h;rw[h];rfl
theorem WV(q:Rat):aM q⁻¹≤aM q:=by
 by_cases h:q=0
 ·rw[h,Rat.inv_zero];exact Nat.le_refl _
 ·have hn:0<q.num.natAbs:=by
   have:q.num≠0:=fun e=>h (Rat.num_eq_zero.1 e)
   omega
  have e:=VA (g:=decide (q.num<0)) (m:=q.num.natAbs) (e:=q.den) hn
  rw[wK]at e
  have h1:=ml (Nat.div_le_self q.den (Nat.gcd q.den q.num.natAbs))
  have h2:=ml (Nat.div_le_self q.num.natAbs (Nat.gcd q.den q.num.natAbs))
  rw[e]
  unfold aM
  rw[Dj hn,AV hn];omega
theorem DU(p q:Rat):aM (p/q)≤aM p+aM q:=by
 rw[Rat.div_def]
 have h1:=sk p q⁻¹
 have h2:=WV q
 omega
def Found(T:av)(s k:Nat)(row:Int)(K:Heap)(ls:List Value):Prop:=
 (row = -1∧∀i,i<k→T.A i s≤0)∨∃r:Nat,row=(r:Int)∧r<k∧0<T.A r s∧bQ K ls (T.A r T.n/T.A r s)∧
  ∀i,i<k→0<T.A i s→T.A r T.n/T.A r s<T.A i T.n/T.A i s∨(T.A r T.n/T.A r s=T.A i T.n/T.A i s∧T.B r≤T.B i)
section
variable {T:av} {s k:Nat} {row:Int} {K K':Heap} {ls:List Value}
theorem Found.le(h:Found T s k row K ls)(hl:Heap.le K K'):Found T s k row K' ls:=by
 rcases h with h | ⟨r,h1,h2,h3,h4,h5⟩
 ·exact .inl h
 ·exact .inr ⟨r,h1,h2,h3,h4.le hl,h5⟩
theorem Found.skip(h:Found T s k row K ls)(hk:T.A k s≤0):Found T s (k+1) row K ls:=by
 rcases h with ⟨h1,h2⟩ | ⟨r,h1,h2,h3,h4,h5⟩
 ·exact .inl ⟨h1,fun i hi=>by
   by_cases e:i=k
   ·rw[e];exact hk
   ·exact h2 i (by omega)⟩
 ·exact .inr ⟨r,h1,by omega,h3,h4,fun i hi hp=>by
   by_cases e:i=k
   ·rw[e]at hp;grind
   ·exact h5 i (by omega) hp⟩
theorem Found.new{WW:List Value}(h:Found T s k row K ls)(hk:0<T.A k s)(hn:bQ K WW (T.A k T.n/T.A k s))(hl:row = -1∨∀r:Nat,row=(r:Int)→T.A k T.n/T.A k s<T.A r T.n/T.A r s):Found T s (k+1) (k:Int) K WW:=by
 refine .inr ⟨k,rfl,by omega,hk,hn,fun i hi hp=> ?_⟩
 by_cases e:i=k
 ·rw[e];exact .inr ⟨rfl,Nat.le_refl _⟩
 ·rcases h with ⟨h1,h2⟩ | ⟨r,h1,h2,h3,h4,h5⟩
  ·have:=h2 i (by omega);grind
  ·have h6:T.A k T.n/T.A k s<T.A r T.n/T.A r s:=by
    rcases hl with hl | hl
    ·omega
    ·exact hl r h1
   rcases h5 i (by omega) hp with h7 | h7
   ·left;grind
   ·left;rw[←h7.1];exact h6
theorem Found.tie(h:Found T s k row K ls)(hk:0<T.A k s){r:Nat}(hr:row=(r:Int))(he:T.A k T.n/T.A k s=T.A r T.n/T.A r s)(hB:T.B k<T.B r):Found T s (k+1) (k:Int) K ls:=by
 rcases h with ⟨h1,h2⟩ | ⟨r',h1,h2,h3,h4,h5⟩
 ·omega
 ·obtain rfl:r'=r:=by omega
  refine .inr ⟨k,rfl,by omega,hk,by rw[he];exact h4,fun i hi hp=> ?_⟩
  by_cases e:i=k
  ·rw[e];exact .inr ⟨rfl,Nat.le_refl _⟩
  ·rcases h5 i (by omega) hp with h7 | h7
   ·left;rw[he];exact h7
   ·right;exact⟨by rw[he];exact h7.1,by omega⟩
theorem Found.stay(h:Found T s k row K ls)(hk:0<T.A k s){r:Nat}(hr:row=(r:Int))(he:T.A r T.n/T.A r s<T.A k T.n/T.A k s∨(T.A r T.n/T.A r s=T.A k T.n/T.A k s∧T.B r≤T.B k)):Found T s (k+1) row K ls:=by
 rcases h with ⟨h1,h2⟩ | ⟨r',h1,h2,h3,h4,h5⟩
 ·omega
 ·obtain rfl:r'=r:=by omega
  refine .inr ⟨r',h1,by omega,h3,h4,fun i hi hp=> ?_⟩
  by_cases e:i=k
  ·rw[e];exact he
  ·exact h5 i (by omega) hp
end
theorem WX{H:Heap}{G:TG}{L:TL}{T0:av}{N:Nat}{I:av→Prop}(h:dF H G L T0)(hc:iR H G L T0)(hI:I T0)(WY:∀S r s,I S→S.oQ L.u r s→I (S.pivot r s))(hinv:∀S,I S→S.WF∧S.jQ∧Sz N S∧S.m=T0.m∧S.n=T0.n)
 (hN:(N:Int)≤137438953472) (hw:(L.w:Int)≤1000000) (hm:(T0.m:Int)≤1000000):
 Fn Tryz.prog 85 #[.pointer (some ⟨G.g,0,none⟩)] H (fun v H'=>∃T,I T∧dF H' G L T∧iR H' G L T∧Heap.le (rem H G.gs) (rem H' G.gs)∧((v = .int .i64 (-1)∧∀j,j<L.u→0≤T.c j)∨∃s:Nat,v = .int .i64 (s:Int)∧s<L.u∧T.c s<0∧∀i,i<T.m→T.A i s≤0)):=by
 have mG:=h.uw;refine aY (args:=[_]) Tryz.func85 rfl rfl Tryz.ntmps85 rfl rfl fun w0=> ?_;refine ah [0] rfl ?_;refine ae (aa 1 rfl (ab [0] ?_));refine aE (JQ (γ:=av) (av.Step L.u) (fun(T:av)=>put (emp) 0 (.val (.pointer (some ⟨G.g,0,none⟩)))) (fun(T:av) H'=>dF H' G L T∧iR H' G L T∧I T∧Heap.le (rem H G.gs) (rem H' G.gs)) (T0) ((by obtain⟨h1,h2,_⟩:=hinv T0 hI;exact av.Pb h1 h2 (by rw[h.n];exact mG))) ar (⟨h,hc,hI,.refl _⟩) ?_);rintro T H1 ⟨h1,jf,GA,fF⟩;obtain⟨O8,O9,cP,WZ,Pz⟩:=hinv T GA;have hTw:T.n=L.w:=h1.n
 have agr:(T.m:Int)≤1000000:=by rw[WZ];exact hm
 refine aE (ae (aa 1 rfl (ab [0,3] ?_)));refine kT (fun(k:Nat)=>put (put (emp) 0 (.val (.pointer (some ⟨G.g,0,none⟩)))) 3 (.val (.int .i64 (k:Int)))) (fun(k:Nat) H'=>Kept G.gs H1 H'∧((k=L.u∧∀j,j<L.u→0≤T.c j)∨(k<L.u∧T.c k<0∧∀j,j<k→0≤T.c j))) ?_ ?_
 ·
  refine aE (fI (fun(k:Nat)=>L.u-k) (fun(k:Nat)=>put (put (emp) 0 (.val (.pointer (some ⟨G.g,0,none⟩)))) 3 (.val (.int .i64 (k:Int)))) (fun(k:Nat) H'=>Kept G.gs H1 H'∧k≤L.u∧∀j,j<k→0≤T.c j) 0 (⟨.refl _ _,Nat.zero_le _,fun j hj=>by omega⟩) ar ?_);rintro k H2 ⟨fP,K8,tE⟩;have h2:=h1.kept fP;have m0:=jf.kept fP;refine ao ?_
  by_cases bP:k<L.u
  ·
   obtain⟨gc,cc,DS,bo,By⟩:=id m0;obtain⟨xc,nc,dc,bc,nP,yz,uc⟩:=By.rd (dD (show k<L.w+1 by omega))
   have jt:cell H2 ((⟨G.g,0,none⟩:Addr).add 7)=some (.slice (some ⟨gc,0,none⟩) (L.w+1) cc):=by rw[←bo];exact h2.cell rfl
   have PA:=cP.c k (by omega);refine ae (aa 3 rfl (aV ag rfl rfl rfl (aR ag rfl rfl rfl (h2.cell rfl) (aG true rfl rfl (je (by omega)) (aa 3 rfl (aV ag rfl rfl rfl (aR ag rfl rfl rfl (jt) (aa 1 rfl (bY (vs:=[.int .i64 nc,.int .i64 dc,.pointer bc]) ag rfl rfl rfl rfl nP rfl (by decide) uc (by omega) (by omega) fun _=>(aB rfl rfl (Fn.l0 h2.ne (tU yz (by omega))) ?_))))))))));rintro v3 H3 ⟨dz,dK,rfl⟩;refine aa 2 rfl (ab [0,3,25] ?_);refine aD rfl (fun hb=> ?_) (fun hb=> ?_)
   ·
    have hb:0≤T.c k:=ue.1 (by simpa using hb);refine aw (ah [0,3] rfl ?_);refine aE (aA rfl (aa 1 rfl (aF rfl rfl ⟨by omega,by omega⟩ (aa 1 rfl (au ?_)))));exact⟨k+1,by omega,ar,fP.trans dz,by omega,fun j hj=>by by_cases e:j=k;(rw[e];exact hb);exact tE j (by omega)⟩
   have hb:T.c k<0:=Gz.1 (by simpa using hb);refine aU ?_;exact⟨k,ar,fP.trans dz,.inr ⟨bP,hb,tE⟩⟩
  ·
   skip
   refine ae (aa 3 rfl (aV ag rfl rfl rfl (aR ag rfl rfl rfl (h2.cell rfl) (aG false rfl rfl (iq (by omega)) (aa 11 rfl (ab [0,3,25] ?_))))));refine dd rfl (aU ?_);exact⟨k,ar,fP,.inl ⟨by omega,fun j hj=>tE j (by omega)⟩⟩
 ·
  rintro k H3 ⟨dz,W0⟩;have h3:=h1.kept dz;have pN:=jf.kept dz;refine ao (ae (aa 3 rfl (aV ag rfl rfl rfl (aR ag rfl rfl rfl (h3.cell rfl) (aa 1 rfl (ab [0,3,33] ?_))))));refine aD rfl (fun hb=> ?_) (fun hb=> ?_)
  ·
   have hb:k=L.u:=by simp at hb;omega
   have fm:∀j,j<L.u→0≤T.c j:=by
    rcases W0 with h5 | h5
    ·exact h5.2
    ·omega
   refine ae (aa 1 rfl (ab [2] ?_));refine az ⟨.inr rfl,_,.tmp rfl (.nil),?_⟩;exact⟨T,GA,h3,pN,fF.trans dz.le,.inl ⟨rfl,fm⟩⟩
  have hb:k≠L.u:=by simp at hb;omega
  obtain⟨bP,gg,tE⟩:k<L.u∧T.c k<0∧∀j,j<k→0≤T.c j:=by
   rcases W0 with h5 | h5
   ·omega
   ·exact h5
  refine aw (ah [0,3] rfl ?_);refine ae (aa 1 rfl (ab [0,3,4] ?_));refine ae (bm fh rfl (ab [0,3,4,5] ?_));refine ao (ae (aa 2 rfl (aV ag rfl rfl rfl (aR ag rfl rfl rfl (h3.cell rfl) (aa 2 rfl (ab [0,3,4,5,37,38,39] ?_))))));refine aE (fD (fun(q:Nat)(row:Int)(ls:Int×Int×Option Addr)=>T.m-q) (fun(q:Nat)(row:Int)(ls:Int×Int×Option Addr)=>put (put (put (put (put (put (put (emp) 0 (.val (.pointer (some ⟨G.g,0,none⟩)))) 3 (.val (.int .i64 (k:Int)))) 4 (.val (.int .i64 row))) 5 (.box [.int .i64 ls.1,.int .i64 ls.2.1,.pointer ls.2.2])) 37 (.val (.slice G.Ar T.m G.cr))) 38 (.val (.int .i64 (T.m:Int)))) 39 (.val (.int .i64 (q:Int)))) (fun(q:Nat)(row:Int)(ls:Int×Int×Option Addr) H'=>Kept G.gs H3 H'∧q≤T.m∧Found T k q row (rem H' G.gs) [.int .i64 ls.1,.int .i64 ls.2.1,.pointer ls.2.2]) 0 (-1) (0,0,none) (⟨.refl _ _,Nat.zero_le _,.inl ⟨rfl,fun i hi=>by omega⟩⟩) ar ?_);rintro q row ls H4 ⟨gy,CZ,cE⟩;have h4:=h3.kept gy;refine ae (aa 1 rfl (ab [0,3,4,5,37,38,39,40] ?_));refine ao (aD rfl (fun hb=> ?_) (fun hb=> ?_))
  ·
   have K9:q<T.m:=by simpa using hb
   obtain⟨pq,mV⟩:=h1.get K9;obtain⟨xs4,Bw,k8⟩:=h4.rows;obtain⟨xk,nk,dk,bk,K6,Gy,ub⟩:=(h4.row q pq mV).rd (dD (show k<L.w+1 by omega));obtain⟨xw,nw,dw,bw,GB,ou,GC⟩:=(h4.row q pq mV).rd (dD (show L.w<L.w+1 by omega));have PA:=cP.A q K9 k (by omega);have ku:=cP.A q K9 L.w (by omega);refine aw (ah [0,3,4,5,37,38,39] rfl ?_);refine ao (aE (ae (aa 1 rfl (aS ag rfl rfl rfl rfl rfl (Bw.le (bF _ _)) (by rw[Int.toNat_natCast];exact k8 q pq mV) (by omega) (by omega) fun _=> ?_))));refine aa 2 rfl (ab [0,3,4,5,6,7,37,38,39] ?_);refine ao (ae (aa 2 rfl (bY (vs:=[.int .i64 nk,.int .i64 dk,.pointer bk]) ag rfl rfl rfl rfl K6 rfl (by decide) (by rw[Int.toNat_natCast];exact ub) (by omega) (by omega) fun _=> ?_)));refine aB rfl rfl (Fn.l0 h4.ne (tU Gy (by omega))) ?_;rintro v5 H5 ⟨mC,dR,rfl⟩;have h5:=h4.kept mC;refine aa 1 rfl (ab [0,3,4,5,6,7,37,38,39,49] ?_);refine aD rfl (fun hb=> ?_) (fun hb=> ?_)
   ·
    have hb:T.A q k≤0:=Py.1 (by simpa using hb);refine aU (ah [0,3,4,5,37,38,39] rfl ?_);refine aA rfl (aF rfl rfl ⟨by omega,by omega⟩ (aa 1 rfl (au ?_)));exact⟨q+1,row,ls,by omega,ar,gy.trans mC,by omega,(cE.le mC.le).skip hb⟩
   have jr:0<T.A q k:=by
    have:¬eY (T.A q k)≤0:=by simpa using hb
    rw[Py]at this;grind
   refine aw (ah [0,3,4,5,6,7,37,38,39] rfl ?_);refine bN .bK [0,1,2,3,4,5,6,7,8,9,10,11,12,13] follows (by kernel_rfl) ?_;refine aa 3 rfl (aV ag rfl rfl rfl (aR ag rfl rfl rfl (h5.iS) (bY (vs:=[.int .i64 nw,.int .i64 dw,.pointer bw]) ag rfl rfl rfl rfl (GB.le dR) rfl (by decide) (by rw[Int.toNat_natCast];exact GC) (by omega) (by omega) fun _=> ?_)));refine aa 2 rfl (bY (vs:=[.int .i64 nk,.int .i64 dk,.pointer bk]) ag rfl rfl rfl rfl (K6.le dR) rfl (by decide) (by rw[Int.toNat_natCast];exact ub) (by omega) (by omega) fun _=> ?_);refine aW rfl rfl (Fn.lD h5.ne (WA (N:=N) (ou.le mC.le) (Gy.le mC.le) ku PA (by omega) (by grind))) (fun _ _ h=>by first | exact h.le | exact h.1) ?_;rintro v6 H6 ⟨qI,fM,nq,dq,bq,rfl,PB⟩;have h6:=h5.kept qI;have hsq:=DU (T.A q L.w) (T.A q k);rw[←hTw]at PB hsq ku;have W1:=(cE.le mC.le).le qI.le;refine bm fh rfl ?_;obtain⟨ti,aj,ak⟩:=cL;refine aI (.inl ⟨rfl,rfl⟩) rfl rfl rfl aj ak rfl rfl rfl (ab [0,3,4,5,6,8,37,38,39] ?_);refine aE (kT (fun(bz:Bool)=>put (put (put (put (put (put (put (put (put (put (emp) 0 (.val (.pointer (some ⟨G.g,0,none⟩)))) 3 (.val (.int .i64 (k:Int)))) 4 (.val (.int .i64 row))) 5 (.box [.int .i64 ls.1,.int .i64 ls.2.1,.pointer ls.2.2])) 6 (.val (.int .i64 (q:Int)))) 8 (.box [.int .i64 nq,.int .i64 dq,.pointer bq])) 37 (.val (.slice G.Ar T.m G.cr))) 38 (.val (.int .i64 (T.m:Int)))) 39 (.val (.int .i64 (q:Int)))) 62 (.val (.bool bz))) (fun(bz:Bool) H'=>Kept G.gs H6 H'∧(bz=true→row = -1∨∀r:Nat,row=(r:Int)→T.A q T.n/T.A q k<T.A r T.n/T.A r k)∧(bz=false→∃r:Nat,row=(r:Int)∧r<q∧¬T.A q T.n/T.A q k<T.A r T.n/T.A r k)) ?_ ?_)
   ·
    refine ae (aa 3 rfl (ab [0,3,4,5,6,8,37,38,39,62] ?_));refine aD rfl (fun hb=> ?_) (fun hb=> ?_)
    ·
     have gM:row<0:=by simpa using hb
     refine aw ?_;exact⟨_,ar,.refl _ _,fun _=> .inl (by rcases cE with hx | hx;exact hx.1;obtain⟨r,hr,_⟩:=hx;omega),fun e=>by rw[hb]at e;cases e⟩
    have gM:¬row<0:=by simpa using hb
    obtain⟨r1,DV,W6,ags,DW,_⟩:∃r:Nat,row=(r:Int)∧r<q∧0<T.A r k∧bQ (rem H6 G.gs) [.int .i64 ls.1,.int .i64 ls.2.1,.pointer ls.2.2] (T.A r T.n/T.A r k)∧True:=by
     rcases W1 with hx | ⟨r,h1,h2,h3,h4,_⟩
     ·omega
     ·exact⟨r,h1,h2,h3,h4,trivial⟩
    have W8:=DU (T.A r1 T.n) (T.A r1 k);have qy:=cP.A r1 (by omega) T.n (by omega);have lW:=cP.A r1 (by omega) k (by omega);refine aA rfl (aa 2 rfl (aB rfl rfl (Fn.lD h6.ne (DI (N:=2*N) PB DW (by omega) (by omega) (by omega))) ?_));rintro va Ha ⟨nQ,fY,na,da,ba,rfl,za⟩;have hss:=so (T.A q T.n/T.A q k) (T.A r1 T.n/T.A r1 k);refine aB rfl rfl (Fn.l0 (nQ.ne h6.ne) (tU za (by omega))) ?_;rintro vb Hb ⟨qJ,dO,rfl⟩;refine aa 2 rfl (au ?_);exact⟨_,ar,nQ.trans qJ,fun e=> .inr fun r hr=>(by have:=Gz.1 (of_decide_eq_true e);obtain rfl:r=r1:=(by omega);grind),fun e=>⟨r1,DV,W6,fun bP=>of_decide_eq_false e (Gz.2 (by grind))⟩⟩
   rintro bz H7 ⟨pU,dU,gM⟩;have h7:=h6.kept pU;have La:=((gy.trans mC).trans qI).trans pU;have GD:=W1.le pU.le;have PC:=PB.le pU.le;refine aD rfl (fun hb=> ?_) (fun hb=> ?_)
   ·
    skip
    refine eK .bK [0,1,2,3] follows (by kernel_rfl) ?_;refine vr 3 ?_;obtain⟨ti,aj,ak⟩:=cL;refine aI (.inl ⟨rfl,rfl⟩) rfl rfl rfl aj ak rfl rfl rfl (au (ah [0,3,4,5,37,38,39] rfl ?_));refine aA rfl (aF rfl rfl ⟨by omega,by omega⟩ (aa 1 rfl (au ?_)));exact⟨q+1,(q:Int),(nq,dq,bq),by omega,ar,La,by omega,GD.new jr PC (dU hb)⟩
   obtain⟨r1,DV,W6,amS⟩:=gM hb
   obtain⟨ags,DW⟩:0<T.A r1 k∧bQ (rem H7 G.gs) [.int .i64 ls.1,.int .i64 ls.2.1,.pointer ls.2.2] (T.A r1 T.n/T.A r1 k):=by
    rcases GD with hx | ⟨r,h1,h2,h3,h4,_⟩
    ·omega
    ·
     obtain rfl:r=r1:=by omega
     exact⟨h3,h4⟩
   have W8:=DU (T.A r1 T.n) (T.A r1 k);have qy:=cP.A r1 (by omega) T.n (by omega);have lW:=cP.A r1 (by omega) k (by omega);have hss:=so (T.A q T.n/T.A q k) (T.A r1 T.n/T.A r1 k)
   obtain⟨gb,cb,sz,lz,dy,a6⟩:∃gb cb sz,G.bb = [gb]∧G.bv = .slice (some ⟨gb,0,none⟩) T.m cb∧H7 gb=some ⟨eP T.B T.m,sz,3,true⟩:=by
    rcases h7.basis with h8 | h8
    ·
     have:=h8.1
     omega
    ·exact h8
   have K7:gb∈G.gs:=TG.mE (by rw[lz];exact List.mem_singleton.2 rfl)
   by_cases heq:T.A q T.n/T.A q k=T.A r1 T.n/T.A r1 k
   ·
    skip
    refine bN .bK [0,1,2,3,4,5,6,7,8,9,10,11,12,13,14,15,16,17,18,19,20,21,22] follows (by kernel_rfl) ?_;refine aa 2 rfl (aW rfl rfl (Fn.lD h7.ne (DI (N:=2*N) PC DW (by omega) (by omega) (by omega))) (fun _ _ h=>by first | exact h.le | exact h.1) ?_);rintro va Ha ⟨nQ,fY,na,da,ba,rfl,za⟩;refine aW rfl rfl (Fn.l0 (nQ.ne h7.ne) (tU za (by omega))) (fun _ _ h=>by first | exact h.le | exact h.1) ?_;rintro vb Hb ⟨qJ,dO,rfl⟩;have h8:=(h7.kept nQ).kept qJ
    have gA:cell Hb ((⟨G.g,0,none⟩:Addr).add 8)=some (.slice (some ⟨gb,0,none⟩) T.m cb):=by rw[←dy];exact h8.cell rfl
    have fJ:Rd Hb (some ⟨gb,0,none⟩) (eP T.B T.m):=dQ (by rw[qJ.same gb K7,nQ.same gb K7];exact a6);refine aG true rfl rfl (gi (ug.2 (by rw[heq];grind))) ?_;refine aa 3 rfl (aV ag rfl rfl rfl (aR ag rfl rfl rfl (gA) (aa 1 rfl (aS ag rfl rfl rfl rfl rfl (fJ) (by rw[Int.toNat_natCast];exact gQ K9) (by omega) (by omega) fun _=> ?_))));refine aa 2 rfl (aV ag rfl rfl rfl (aR ag rfl rfl rfl (gA) (aa 1 rfl (aS ag rfl rfl rfl rfl rfl (fJ) (by rw[DV,Int.toNat_natCast];exact gQ (by omega)) (by omega) (by omega) fun _=> ?_))));refine aa 3 rfl (ab [0,3,4,5,6,37,38,39,72] ?_);refine aD rfl (fun hb=> ?_) (fun hb=> ?_)
    ·
     have hB:T.B q<T.B r1:=by simp at hb;omega
     refine aA rfl (aa 2 rfl (au (ah [0,3,4,5,37,38,39] rfl ?_)));refine aA rfl (aF rfl rfl ⟨by omega,by omega⟩ (aa 1 rfl (au ?_)));exact⟨q+1,(q:Int),ls,by omega,ar,(La.trans nQ).trans qJ,by omega,((GD.le nQ.le).le qJ.le).tie jr DV heq hB⟩
    have hB:T.B r1≤T.B q:=by simp at hb;omega
    refine aw (ah [0,3,4,5,37,38,39] rfl ?_);refine aA rfl (aF rfl rfl ⟨by omega,by omega⟩ (aa 1 rfl (au ?_)));exact⟨q+1,row,ls,by omega,ar,(La.trans nQ).trans qJ,by omega,((GD.le nQ.le).le qJ.le).stay jr DV (.inr ⟨heq.symm,hB⟩)⟩
   skip
   refine bN .bK [0,1,2,3,4,5,6,7,8,9,10,11,12,13,14,15,16,17,18,19,20,21,22] follows (by kernel_rfl) ?_;refine aa 2 rfl (aW rfl rfl (Fn.lD h7.ne (DI (N:=2*N) PC DW (by omega) (by omega) (by omega))) (fun _ _ h=>by first | exact h.le | exact h.1) ?_);rintro va Ha ⟨nQ,fY,na,da,ba,rfl,za⟩;refine aW rfl rfl (Fn.l0 (nQ.ne h7.ne) (tU za (by omega))) (fun _ _ h=>by first | exact h.le | exact h.1) ?_;rintro vb Hb ⟨qJ,dO,rfl⟩;refine aG false rfl rfl (jn (fun e=>heq (by have:=ug.1 e;grind))) ?_;refine aa 18 rfl (ab [0,3,4,5,6,37,38,39,72] ?_);refine dd rfl (aw (ah [0,3,4,5,37,38,39] rfl ?_));refine aA rfl (aF rfl rfl ⟨by omega,by omega⟩ (aa 1 rfl (au ?_)));exact⟨q+1,row,ls,by omega,ar,(La.trans nQ).trans qJ,by omega,((GD.le nQ.le).le qJ.le).stay jr DV (.inl (by grind))⟩
  have hb:T.m≤q:=by simpa using hb
  obtain rfl:q=T.m:=by omega
  have Xa:=dz.trans gy;refine aU (ah [0,3,4] rfl ?_);refine ao (ae (aa 2 rfl (ab [0,3,4,98] ?_)));refine aD rfl (fun hb=> ?_) (fun hb=> ?_)
  ·
   have gM:row<0:=by simpa using hb
   have fm:∀i,i<T.m→T.A i k≤0:=by
    rcases cE with hx | ⟨r,hr,_⟩
    ·exact hx.2
    ·omega
   refine ae (aa 2 rfl (ab [2] ?_));refine az ⟨.inr rfl,_,.tmp rfl (.nil),?_⟩;exact⟨T,GA,h4,pN.kept gy,fF.trans Xa.le,.inr ⟨k,rfl,bP,gg,fm⟩⟩
  have gM:¬row<0:=by simpa using hb
  obtain⟨rr,oU,kG,gT,oV⟩:∃r:Nat,row=(r:Int)∧r<T.m∧0<T.A r k∧∀i,i<T.m→0<T.A i k→T.A r T.n/T.A r k<T.A i T.n/T.A i k∨(T.A r T.n/T.A r k=T.A i T.n/T.A i k∧T.B r≤T.B i):=by
   rcases cE with hx | ⟨r,h1,h2,h3,_,h5⟩
   ·omega
   ·exact⟨r,h1,h2,h3,h5⟩
  have kB:T.oQ L.u rr k:=⟨bP,gg,tE,kG,gT,oV⟩;obtain⟨_,_,agt,_,_⟩:=hinv _ (WY _ _ _ GA kB);refine aw (ah [0,3,4] rfl ?_);refine aA rfl (aa 3 rfl (aB rfl rfl (by rw[oU];exact WT (N:=N) h4 (pN.kept gy) kG (by omega) (by grind) cP agt (by omega) hw agr) ?_));rintro v9 H9 ⟨h9,GF,GH⟩;refine au ?_;exact⟨T.pivot rr k,⟨rr,k,kB,rfl⟩,ar,h9,GF,WY _ _ _ GA kB,(fF.trans Xa.le).trans GH⟩
end Go.aq
namespace Go.aq
open Go.Proofs Num Lp
structure GI(K H:Heap)(G:TG)(L:TL)(T:av):Prop where
 kh:Heap.le K H
 cell:∀(k:Nat)(v:Value),(G.cells L.w L.u T.m)[k]? = some v→aq.cell H ((⟨G.g,0,none⟩:Addr).add k)=some v
 rows:∃xs,Rd H G.Ar xs∧∀i,i<T.m→∃p:Nat×Nat,xs[i]? = some (.slice (some ⟨p.1,0,none⟩) (L.w+1) p.2)∧lC K H p.1 (aK (T.A i) (L.w+1))
 basis:T.m=0∨∃gb cb,G.bv = .slice (some ⟨gb,0,none⟩) T.m cb∧Rd H (some ⟨gb,0,none⟩) (eP T.B T.m)
 Xb:T.m=0→∃A c,G.bv = .slice A 0 c
 plus:aN vI 1 H G.pv L.plus
 minus:aN ke 1 H G.mv L.minus
 kf:aN vI 1 H G.uv L.kf
 jR:aN bQ 3 K G.sv L.jR
theorem dF.w{H0 K H:Heap}{G:TG}{L:TL}{T:av}(h:dF H0 G L T)(hle:Heap.le (rem H0 G.gs) K)(hk:Heap.le K H)(hs:∀q,q∈G.gs→H q=H0 q):GI K H G L T where
 kh:=hk
 cell:=fun k v hv=>by
  have:=hs _ G.sC
  simp[aq.cell,iu,this,h.st,hv]
 rows:=by
  obtain⟨xs,h1,h2⟩:=h.rows
  refine⟨xs,h1.le (hle.trans hk),fun i hi=> ?_⟩
  obtain⟨p,hp⟩:=h.get hi
  exact⟨p,h2 i p hp,(h.row i p hp).le hle (hs _ (TG.gS hp))⟩
 basis:=by
  rcases h.basis with h1 | ⟨gb,cb,sz,h1,h2,h3⟩
  ·exact .inl h1.1
  ·exact .inr ⟨gb,cb,h2,dQ (by rw[hs _ (TG.mE (by rw[h1];exact List.mem_singleton.2 rfl))];exact h3)⟩
 Xb:=fun hm=>by
  rcases h.basis with h1 | ⟨gb,cb,sz,h1,h2,h3⟩
  ·exact⟨none,0,h1.2.2⟩
  ·exact⟨_,cb,by rw[h2,hm]⟩
 plus:=(h.plus.le mD hle).le mD hk
 minus:=(h.minus.le lb hle).le lb hk
 kf:=(h.kf.le mD hle).le mD hk
 jR:=h.jR.le jg hle
theorem dF.self{H:Heap}{G:TG}{L:TL}{T:av}(h:dF H G L T):GI (rem H G.gs) H G L T:=h.w (.refl _) (bF _ _) (fun _ _=>rfl)
theorem GI.bv{K H:Heap}{G:TG}{L:TL}{T:av}(h:GI K H G L T):∃A c,G.bv = .slice A T.m c∧Rd H A (eP T.B T.m):=by
 rcases h.basis with h1 | ⟨gb,cb,h1,h2⟩
 ·obtain⟨A,c,h2⟩:=h.Xb h1
  refine⟨A,c,by rw[h1];exact h2,fun i v hv=> ?_⟩
  rw[h1]at hv
  simp[eP]at hv
 ·exact⟨_,cb,h1,h2⟩
theorem aN.one{α:Type}{P:Heap→List Value→α→Prop}{H:Heap}{v:Value}{l:List α}(h:aN P 1 H v l):∃A c xs,v = .slice A l.length c∧Rd H A xs∧∀(i:Nat)(a:α),l[i]? = some a→∃u,xs[i]? = some u∧P H [u] a:=by
 obtain⟨A,c,xs,h1,_,h3,h4⟩:=h
 exact⟨A,c,xs,h1,h3,fun i a ha=>h4.one ha⟩
theorem aN.num{H:Heap}{v:Value}{l:List Rat}(h:aN bQ 3 H v l):∃A c xs,v = .slice A l.length c∧Rd H A xs∧∀(i:Nat)(q:Rat),l[i]? = some q→∃n d b,bQ H [.int .i64 n,.int .i64 d,.pointer b] q∧∀(j:Nat)(u:Value),[.int .i64 n,.int .i64 d,.pointer b][j]? = some u→xs[i*3+j]? = some u:=by
 obtain⟨A,c,xs,h1,_,h3,h4⟩:=h
 refine⟨A,c,xs,h1,h3,fun i q hq=> ?_⟩
 obtain⟨vs,_,h5,h6⟩:=h4.get hq
 obtain⟨n,d,b,rfl⟩:=h5.cells
 exact⟨n,d,b,h5,h6⟩
structure ft(gs:List Nat)(H0 H:Heap)(z:Nat)(xs:List Value)(sz e:Nat):Prop where
 aC:H z=some ⟨xs,sz,e,true⟩
 zn:H0 z=none
 zg:¬z∈gs
 le:Heap.le (rem H0 gs) (rem H (z::gs))
 same:∀q,q∈gs→H q=H0 q
section
variable {gs:List Nat} {H0 H H':Heap} {z:Nat} {xs oj:List Value} {sz e:Nat}
theorem ft.new(hn:∀q,q∈gs→H0 q≠none)(hz:H0 z=none):ft gs H0 (ins H0 z ⟨xs,sz,e,true⟩) z xs sz e:=
 ⟨bC _ _ _,hz,fun h=>hn z h hz,by rw[sh _ hz];exact .refl _,fun q hq=>bn _ _ (fun e=>hn q hq (by rw[e];exact hz))⟩
theorem ft.ne(h:ft gs H0 H z xs sz e)(hn:∀q,q∈gs→H0 q≠none):∀q,q∈z::gs→H q≠none:=fun q hq=>by
 rcases List.mem_cons.1 hq with rfl | hq
 ·rw[h.aC];simp
 ·rw[h.same q hq];exact hn q hq
theorem ft.kept(h:ft gs H0 H z xs sz e)(k:Kept (z::gs) H H'):ft gs H0 H' z xs sz e:=
 ⟨by rw[k.same z (List.mem_cons_self ..)];exact h.aC,h.zn,h.zg,h.le.trans k.le,fun q hq=>(k.same q (List.mem_cons_of_mem _ hq)).trans (h.same q hq)⟩
theorem ft.set(h:ft gs H0 H z xs sz e){en:Ent}(he:en=⟨oj,sz,e,true⟩):ft gs H0 (ins H z en) z oj sz e:=
 ⟨by rw[bC,he],h.zn,h.zg,by rw[cJ _ (List.mem_cons_self ..)];exact h.le,fun q hq=>by rw[bn _ _ (fun(e':q=z)=>h.zg (by rw[←e'];exact hq))];exact h.same q hq⟩
theorem ft.hle(h:ft gs H0 H z xs sz e):Heap.le H0 H:=fun g en hg=>by
 by_cases hm:g∈gs
 ·exact⟨en,by rw[h.same g hm];exact hg,.refl en⟩
 ·obtain⟨e',h1,h2⟩:=h.le g en (by rw[bM hm];exact hg)
  obtain⟨ND,h3,h4⟩:=bF H (z::gs) g e' h1
  exact⟨ND,h3,h2.trans h4⟩
theorem ft.done(h:ft gs H0 H z xs sz e):Kept gs H0 H∧Heap.le (rem H (z::gs)) (rem H gs):=⟨⟨h.le.trans (OU H z gs),h.same⟩,OU H z gs⟩
theorem ft.rd(h:ft gs H0 H z xs sz e):Rd (rem H gs) (some ⟨z,0,none⟩) xs:=fun i v hv=>⟨_,rfl,by simp[aq.cell,iu,bM h.zg,h.aC,hv]⟩
theorem ft.tab{H:Heap}{G:TG}{L:TL}{T:av}(ht:dF H0 G L T)(h:ft G.gs H0 H z xs sz e):GI (rem H (z::G.gs)) H G L T:=ht.w h.le (bF _ _) h.same
end
structure DX{α:Type}(P:Heap→List Value→α→Prop)(s:Nat)(gs:List Nat)(H:Heap)(l:List α)(v:Value)(H':Heap):Prop where
 kept:Kept gs H H'
 le:Heap.le H H'
 val:aN P s (rem H' gs) v l
theorem Fn.Lb{α:Type}{P:Heap→List Value→α→Prop}{s:Nat}{Q:Program}{f:FuncId}{args:Array Value}{H:Heap}{gs:List Nat}{l:List α}(jF:∀g,g∈gs→H g≠none)(h:Fn Q f args (rem H gs) (Pk P s (rem H gs) l)):Fn Q f args H (DX P s gs H l):=
 (Fn.frame jF h).mono fun v H' hf=>⟨.of hf fun v K hp=>hp.1,hf.le fun v K hp=>hp.1,hf.post.2⟩
structure FrZ(gs:List Nat)(H:Heap)(n:Nat)(v:Value)(H':Heap):Prop where
 le:Heap.le H H'
 val:∃z xs,v = .slice (some ⟨z,0,none⟩) n n∧ft gs H H' z xs (n*3) 121∧∀K:Heap,bG (bQ K) 3 xs (aK (fun _=>0) n)
theorem Xc(n:Nat):aK (fun _=>0) n=List.replicate n 0:=by
 apply List.ext_getElem?
 intro i
 by_cases h:i<n
 ·rw[dD h,List.getElem?_replicate,if_pos h]
 ·rw[List.getElem?_eq_none (by rw[bh];omega),List.getElem?_eq_none (by rw[List.length_replicate];omega)]
theorem GJ{H:Heap}{gs:List Nat}(jF:∀g,g∈gs→H g≠none){n:Nat}(hn:(n:Int)≤8796093022208):Fn Tryz.prog 90 #[.int .i64 (n:Int)] H (FrZ gs H n):=
 (af1 hn).mono fun v H' ⟨g,xs,h1,h2,h3,h4⟩=>by
  rw[List.length_replicate]at h2 h3
  refine⟨by rw[h3];exact Heap.bI _ h1,g,xs,h2,by rw[h3];exact .new jF h1,fun K=>by rw[Xc];exact h4 K⟩
def bT(f:Nat→Rat)(k:Nat)(q:Rat)(j:Nat):Rat:=if j=k then q else f j
theorem Lc{f:Nat→Rat}{n k:Nat}{q:Rat}:(aK f n).set k q=aK (bT f k q) n:=by
 apply List.ext_getElem?
 intro j
 by_cases hj:j<n
 ·by_cases e:j=k
  ·subst e
   rw[List.getElem?_set_self (by rw[bh];exact hj),dD hj];simp[bT]
  ·rw[List.getElem?_set_ne (fun e'=>e e'.symm),dD hj,dD hj];simp[bT,e]
 ·rw[List.getElem?_eq_none (by rw[List.length_set,bh];omega),List.getElem?_eq_none (by rw[bh];omega)]
theorem sE{K:Heap}{xs vs:List Value}{f:Nat→Rat}{n k:Nat}{q:Rat}(h:bG (bQ K) 3 xs (aK f n))(hk:k<n)(hv:bQ K vs q):bG (bQ K) 3 (aL xs (k*3) vs) (aK (bT f k q) n):=by
 rw[←Lc];exact h.set (by rw[bh];exact hk) hv hv.len
theorem oW{xs vs:List Value}{s e k sz:Nat}:({(⟨xs,s,e,true⟩:Ent)with xs:=aL xs (0+k*sz) vs}:Ent)=⟨aL xs (k*sz) vs,s,e,true⟩:=by rw[Nat.zero_add]
end Go.aq
namespace Go.aq
open Go.Proofs Num Lp
theorem agu{u k:Nat}(h:u≤k)(j:Nat):av.js u (k+1) j=bT (av.js u k) k 1 j:=by
 unfold bT av.js
 by_cases e:j=k
 ·rw[if_pos (by omega),if_pos e]
 ·rw[if_neg e]
  by_cases e2:u≤j∧j<k
  ·rw[if_pos (by omega)];simp only[e2,and_self,if_true]
  ·rw[if_neg (by omega)];simp only[e2,if_false]
theorem Xd{H:Heap}{G:TG}{L:TL}{T:av}(h:dF H G L T)(hc:iR H G L T)(hs:(aM (T.c L.w):Int)≤1099511627776):
 Fn Tryz.prog 86 #[.pointer (some ⟨G.g,0,none⟩)] H (WM G.gs H (-(T.c L.w))):=by
 obtain⟨gc,cc,DS,bo,By⟩:=id hc
 obtain⟨xc,nc,dc,bc,nP,yz,uc⟩:=By.rd (dD (show L.w<L.w+1 by omega))
 have jt:cell H ((⟨G.g,0,none⟩:Addr).add 7)=some (.slice (some ⟨gc,0,none⟩) (L.w+1) cc):=by rw[←bo];exact h.cell rfl
 refine aY (args:=[_]) Tryz.func86 rfl rfl Tryz.ntmps86 rfl rfl fun w0=> ?_;refine ah [0] rfl ?_;refine ae (bm fh rfl (ab [0,2] ?_));refine bN .bK [0,1,2,3,4,5,6,7,8,9,10,11] follows (by kernel_rfl) ?_;refine aa 2 rfl (aV ag rfl rfl rfl (aR ag rfl rfl rfl (jt) (aa 2 rfl (aV ag rfl rfl rfl (aR ag rfl rfl rfl (h.iS) (bY (vs:=[.int .i64 nc,.int .i64 dc,.pointer bc]) ag rfl rfl rfl rfl nP rfl (by decide) (by rw[Int.toNat_natCast];exact uc) (by omega) (by omega) fun _=> ?_))))));refine aW rfl rfl (Fn.lD h.ne (DC yz hs)) (fun _ _ h=>by first | exact h.le | exact h.1) ?_;rintro v1 H1 ⟨gL,bg,n1,d1,b1,rfl,bX⟩;obtain⟨ti,aj,ak⟩:=cL;refine aI (.inl ⟨rfl,rfl⟩) rfl rfl rfl aj ak rfl rfl rfl (ab [2] ?_);obtain⟨b8,aP,aQ⟩:=cL;refine az ⟨.inr rfl,_,.agg rfl Tryz.underlying121 aP aQ (.nil),?_⟩;exact⟨gL,bg,n1,d1,b1,rfl,bX⟩
theorem Xe{H:Heap}{G:TG}{L:TL}{T:av}(h:dF H G L T)(hw:(L.w:Int)≤1000000):
 Fn Tryz.prog 84 #[.pointer (some ⟨G.g,0,none⟩)] H (DX bQ 3 G.gs H (aK (av.js L.u L.w) L.w)):=by
 have mG:=h.uw;refine aY (args:=[_]) Tryz.func84 rfl rfl Tryz.ntmps84 rfl rfl fun w0=> ?_;refine ah [0] rfl ?_;refine ae (aa 1 rfl (ab [0] ?_));refine ae (aa 2 rfl (aV ag rfl rfl rfl (aR ag rfl rfl rfl (h.iS) (aB rfl rfl (GJ h.ne (by omega)) ?_))));rintro v1 H1 ⟨bg,z,xs,rfl,kH,iE⟩;have gE:=kH.tab h;refine aa 1 rfl (ab [0,3] ?_);refine ao (ae (aa 2 rfl (aV ag rfl rfl rfl (aR ag rfl rfl rfl (gE.cell 1 _ rfl) (aa 1 rfl (ab [0,3,4] ?_))))));refine aE (fX (fun(k:Nat)(xs:List Value)=>L.w-k) (fun(k:Nat)(xs:List Value)=>put (put (put (emp) 0 (.val (.pointer (some ⟨G.g,0,none⟩)))) 3 (.val (.slice (some ⟨z,0,none⟩) L.w L.w))) 4 (.val (.int .i64 (k:Int)))) (fun(k:Nat)(xs:List Value) H'=>ft G.gs H H' z xs (L.w*3) 121∧(∀K:Heap,bG (bQ K) 3 xs (aK (av.js L.u k) L.w))∧L.u≤k∧k≤L.w) L.u xs (⟨kH,fun K=>by rw[la (g:=fun _=>0) (fun j _=>by unfold av.js;rw[if_neg (by omega)])];exact iE K,Nat.le_refl _,mG⟩) ar ?_);rintro k xs H2 ⟨eQ,lf,huk,hkw⟩;have jE:=eQ.tab h;have cY:=(lf H).len;rw[bh]at cY;refine ao (ae (aa 3 rfl (aV ag rfl rfl rfl ?_)))
 refine aR ag rfl rfl rfl (by have:=jE.cell 0 _ rfl;rwa [iu]at this) ?_;refine aa 1 rfl (ab [0,3,4,19] ?_);refine aD rfl (fun hb=> ?_) (fun hb=> ?_)
 ·
  have hb:k<L.w:=by simpa using hb
  refine aw (ah [0,3,4] rfl ?_);refine ao (aE (aA rfl (aa 2 rfl (aB rfl rfl (wZ) ?_))));rintro v3 H3 ⟨e3,rfl⟩;rw[e3];obtain⟨ti,aj,ak⟩:=cL;refine cT (.inl rfl) ag rfl rfl rfl (by omega) (by omega) (eQ.aC) rfl (by show 0+L.w*3≤xs.length;omega) aj ak (fun _=>rfl) rfl rfl rfl fun _=> ?_;refine au (ah [0,3,4] rfl ?_);refine aA rfl (aa 1 rfl (aF rfl rfl ⟨by omega,by omega⟩ (aa 1 rfl (au ?_))));exact⟨k+1,aL xs (k*3) [.int .i64 1,.int .i64 1,.pointer none],by omega,ar,eQ.set oW,fun K=>by rw[la (g:=bT (av.js L.u k) k 1) (fun j _=>agu huk j)];exact sE (lf K) hb (wY K (n:=1) (by decide) (by decide)),by omega,by omega⟩
 ·
  have hb:L.w≤k:=by simpa using hb
  obtain rfl:k=L.w:=by omega
  refine aU (ah [3] rfl ?_);refine ae (aa 2 rfl (ab [2] ?_));refine az ⟨.inr rfl,_,.tmp rfl (.nil),?_⟩;exact⟨eQ.done.1,eQ.hle,some ⟨z,0,none⟩,L.w,xs,by rw[bh];rfl,by rw[bh];exact Nat.le_refl _,eQ.rd,lf _⟩
theorem agv{H:Heap}{G:TG}{L:TL}{T0:av}{N:Nat}{J:Nat→av→Prop}(h:dF H G L T0)(hc:iR H G L T0)(hJ:J 0 T0)(Xf:∀k S,J k S→k<S.m→(S.B k<L.u∨∀j,j<L.u→S.A k j=0)→J (k+1) S)
 (agw:∀k S s,J k S→k<S.m→L.u≤S.B k→s<L.u→S.A k s≠0→J (k+1) (S.pivot k s)) (hinv:∀k S,J k S→Sz N S∧S.m=T0.m∧S.n=T0.n) (hN:(N:Int)≤137438953472) (hw:(L.w:Int)≤1000000) (hm:(T0.m:Int)≤1000000):
 Fn Tryz.prog 89 #[.pointer (some ⟨G.g,0,none⟩)] H (fun _ H'=>∃T,J T0.m T∧dF H' G L T∧iR H' G L T∧Heap.le (rem H G.gs) (rem H' G.gs)):=by
 have mG:=h.uw
 obtain⟨Ab,cb,dy,_⟩:=h.self.bv
 have gA:cell H ((⟨G.g,0,none⟩:Addr).add 8)=some (.slice Ab T0.m cb):=by rw[←dy];exact h.cell rfl
 refine aY (args:=[_]) Tryz.func89 rfl rfl Tryz.ntmps89 rfl rfl fun w0=> ?_;refine ah [0] rfl ?_;refine ae (aa 2 rfl (aV ag rfl rfl rfl (aR ag rfl rfl rfl (gA) (aa 2 rfl (ab [0,8,9,10] ?_)))));refine aE (fX (fun(k:Nat)(T:av)=>T0.m-k) (fun(k:Nat)(T:av)=>put (put (put (put (emp) 0 (.val (.pointer (some ⟨G.g,0,none⟩)))) 8 (.val (.slice Ab T0.m cb))) 9 (.val (.int .i64 (T0.m:Int)))) 10 (.val (.int .i64 (k:Int)))) (fun(k:Nat)(T:av) H'=>dF H' G L T∧iR H' G L T∧J k T∧Heap.le (rem H G.gs) (rem H' G.gs)∧k≤T0.m) 0 T0 (⟨h,hc,hJ,.refl _,Nat.zero_le _⟩) ar ?_);rintro k T H1 ⟨h1,jf,GK,fF,gL⟩;obtain⟨cP,WZ,Pz⟩:=hinv k T GK;obtain⟨A2,c2,GL,F8⟩:=h1.self.bv;rw[dy]at GL
 obtain⟨rfl,-,rfl⟩:Ab=A2∧T0.m=T.m∧cb=c2:=by simpa using GL
 refine ae (aa 1 rfl (ab [0,8,9,10,11] ?_));refine ao (aD rfl (fun hb=> ?_) (fun hb=> ?_))
 ·
  have fV:k<T0.m:=by simpa using hb
  have Bz:k<T.m:=by omega
  obtain⟨pk,qH⟩:=h1.get Bz;refine aw (ah [0,8,9,10] rfl ?_);refine ao (aE (ae (aa 1 rfl (aS ag rfl rfl rfl rfl rfl (F8) (by rw[Int.toNat_natCast];exact gQ Bz) (by omega) (by omega) fun _=> ?_))));refine aa 2 rfl (ab [0,2,3,8,9,10] ?_);refine ao (ae (aa 3 rfl (aV ag rfl rfl rfl (aR ag rfl rfl rfl (h1.cell rfl) (aa 1 rfl (ab [0,2,8,9,10,20] ?_))))));refine aD rfl (fun hb=> ?_) (fun hb=> ?_)
  ·
   have hb:T.B k<L.u:=by simp at hb;omega
   refine aU (ah [0,8,9,10] rfl ?_);refine aA rfl (aF rfl rfl ⟨by omega,by omega⟩ (aa 1 rfl (au ?_)));exact⟨k+1,T,by omega,ar,h1,jf,Xf k T GK Bz (.inl hb),fF,by omega⟩
  ·
   have hBu:L.u≤T.B k:=by simp at hb;omega
   refine aw (ah [0,2,8,9,10] rfl ?_);refine ae (aa 2 rfl (aV ag rfl rfl rfl (aR ag rfl rfl rfl (h1.cell rfl) (aa 1 rfl (ab [0,2,8,9,10,24,25] ?_)))));refine aE (fI (fun(j:Nat)=>L.u-j) (fun(j:Nat)=>put (put (put (put (put (put (put (emp) 0 (.val (.pointer (some ⟨G.g,0,none⟩)))) 2 (.val (.int .i64 (k:Int)))) 8 (.val (.slice Ab T0.m cb))) 9 (.val (.int .i64 (T0.m:Int)))) 10 (.val (.int .i64 (k:Int)))) 24 (.val (.int .i64 (L.u:Int)))) 25 (.val (.int .i64 (j:Int)))) (fun(j:Nat) H'=>Kept G.gs H1 H'∧j≤L.u∧∀i,i<j→T.A k i=0) 0 (⟨.refl _ _,Nat.zero_le _,fun i hi=>by omega⟩) ar ?_);rintro j H3 ⟨dz,hju,qK⟩;have h3:=h1.kept dz;refine ae (aa 1 rfl (ab [0,2,8,9,10,24,25,26] ?_));refine ao (aD rfl (fun hb=> ?_) (fun hb=> ?_))
   ·
    have Xg:j<L.u:=by simpa using hb
    obtain⟨PD,xt,ic⟩:=h3.rows;obtain⟨xj,nj,dj,bj,hrj,hnj,Xh⟩:=(h3.row k pk qH).rd (dD (show j<L.w+1 by omega));have Xi:=cP.A k Bz j (by rw[h1.n];omega);refine aw (ah [0,2,8,9,10,24,25] rfl ?_);refine ao (aE (ae (aa 2 rfl (ab [0,2,4,8,9,10,24,25] ?_))));refine ae (aa 2 rfl (aV ag rfl rfl rfl (aR ag rfl rfl rfl (h3.cell rfl) (aa 1 rfl (aS ag rfl rfl rfl rfl rfl (xt.le (bF _ _)) (by rw[Int.toNat_natCast];exact ic k pk qH) (by omega) (by omega) fun _=> ?_)))));refine aa 1 rfl (bY (vs:=[.int .i64 nj,.int .i64 dj,.pointer bj]) ag rfl rfl rfl rfl hrj rfl (by decide) (by rw[Int.toNat_natCast];exact Xh) (by omega) (by omega) fun _=> ?_);refine aB rfl rfl (Fn.l0 h3.ne (tU hnj (by omega))) ?_;rintro v4 H4 ⟨gy,cM,rfl⟩;have h4:=h3.kept gy;refine aa 1 rfl (ab [0,2,4,8,9,10,24,25,39] ?_);refine aD rfl (fun hb=> ?_) (fun hb=> ?_)
    ·
     have Xj:T.A k j≠0:=fun e=>by rw[e]at hb;simp[eY]at hb
     have Xk:=agw k T j GK Bz hBu Xg Xj;obtain⟨Xl,_,_⟩:=hinv _ _ Xk;refine ae (aa 3 rfl (aB rfl rfl (WT (N:=N) h4 ((jf.kept dz).kept gy) Bz (by omega) Xj cP Xl (by omega) hw (by omega)) ?_));rintro v5 H5 ⟨h5,l4,iP⟩;refine ab [0,8,9,10] ?_;refine aU (ah [0,8,9,10] rfl ?_);refine aA rfl (aF rfl rfl ⟨by omega,by omega⟩ (aa 1 rfl (au ?_)));exact⟨k+1,T.pivot k j,by omega,ar,h5,l4,Xk,(fF.trans (dz.trans gy).le).trans iP,by omega⟩
    have hb:T.A k j=0:=vH (by simpa using hb);refine aw (ah [0,2,8,9,10,24,25] rfl ?_);refine aA rfl (aF rfl rfl ⟨by omega,by omega⟩ (aa 1 rfl (au ?_)));exact⟨j+1,by omega,ar,dz.trans gy,by omega,fun i hi=>by by_cases e:i=j;(rw[e];exact hb);exact qK i (by omega)⟩
   have hb:L.u≤j:=by simpa using hb
   obtain rfl:j=L.u:=by omega
   refine aU (ah [0,8,9,10] rfl ?_);refine aA rfl (aF rfl rfl ⟨by omega,by omega⟩ (aa 1 rfl (au ?_)));exact⟨k+1,T,by omega,ar,h3,jf.kept dz,Xf k T GK Bz (.inr qK),fF.trans dz.le,by omega⟩
 ·
  have hb:T0.m≤k:=by simpa using hb
  obtain rfl:k=T0.m:=by omega
  refine aU ?_;refine⟨.inl rfl,_,.nil,?_⟩;exact⟨T,GK,h1,jf,fF⟩
end Go.aq
