/- Part 5 of the proof: Num3, Bd, TDat, Tab1, TDat2, Tab2, Tab3, TDat3, Tab4. -/
import Derived.Test.YtdjoookebbbjkaaGreatA04
set_option linter.unusedVariables false
namespace Go.aq
open Go.Proofs Num Lp
def ic{α:Type}(P:Heap→List Value→α→Prop)(H:Heap)(vs:List Value):Option α→Prop
 | some a=>P H vs a
 | none=>True
theorem ic.up{α:Type}{P:Heap→List Value→α→Prop}(up:Up P):Up (ic P):=fun H H' vs a hl h=>by
 cases a with
 | none=>trivial
 | some a=>exact up H H' vs a hl h
def fill{α:Type}(l:List α)(k:Nat):List (Option α):=(l.take k).map some++List.replicate (l.length-k) none
section
variable {α:Type} {l:List α} {k:Nat}
theorem mX(h:k≤l.length):(fill l k).length=l.length:=by simp[fill];omega
theorem afE:fill l 0=List.replicate l.length none:=by simp[fill]
theorem zi{a:α}(h:l[k]? = some a):(fill l k).set k (some a)=fill l (k+1):=by
 have hk:=(List.getElem?_eq_some_iff.1 h).1
 apply List.ext_getElem?
 intro i
 by_cases e:i=k
 ·subst e
  rw[List.getElem?_set_self (by rw[mX (by omega)];omega)]
  unfold fill
  rw[List.getElem?_append_left (by simp;omega),List.getElem?_map,List.getElem?_take,if_pos (by omega),h];rfl
 ·rw[List.getElem?_set_ne (fun e'=>e e'.symm)]
  unfold fill
  by_cases h1:i<k
  ·rw[List.getElem?_append_left (by simp;omega),List.getElem?_append_left (by simp;omega),List.getElem?_map,List.getElem?_map,List.getElem?_take,List.getElem?_take,if_pos h1,if_pos (by omega)]
  ·rw[List.getElem?_append_right (by simp;omega),List.getElem?_append_right (by simp;omega),List.getElem?_replicate,List.getElem?_replicate]
   simp only[List.length_map,List.length_take]
   by_cases h2:i<l.length
   ·rw[if_pos (by omega),if_pos (by omega)]
   ·rw[if_neg (by omega),if_neg (by omega)]
theorem afF:fill l l.length=l.map some:=by simp[fill]
theorem DR{P:Heap→List Value→α→Prop}{H:Heap}{sz:Nat}{xs:List Value}(h:bA (ic P H) sz xs (fill l l.length)):bA (P H) sz xs l:=by
 rw[afF]at h
 refine⟨by simpa using h.len,fun i a ha=> ?_⟩
 exact h.at_ i (some a) (by rw[List.getElem?_map,ha];rfl)
end
theorem BF{α:Type}{P:Heap→List Value→α→Prop}{H:Heap}{zs:List Value}{sz:Nat}(hz:zs.length=sz)(l:List α):bA (ic P H) sz (dd zs (l.length*sz)) (fill l 0):=by
 rw[afE]
 exact KK (P:=ic P H) (a:=none) hz trivial _
theorem jc:Up bS:=bS.up
def dI(N:Nat)(H:Heap)(vs:List Value)(q:Rat):Prop:=cT H (.agg vs.toArray) q N
theorem r8(N:Nat):Up (dI N):=fun _ _ _ _ hl h=>cT.le h hl
def bV(H:Heap)(vs:List Value)(q:Rat):Prop:=bH H (.agg vs.toArray) q
theorem cX:Up bV:=fun _ _ _ _ hl h=>bH.le h hl
theorem DS{vs:List Value}{a b c:Value}(h:Value.agg vs.toArray = .agg #[a,b,c]):vs = [a,b,c]:=by
 simp only[Value.agg.injEq]at h
 have:=congrArg Array.toList h
 simpa using this
theorem dI.cells{N:Nat}{H:Heap}{vs:List Value}{q:Rat}(h:dI N H vs q):∃f A m c A' m' c',vs = [.bool f,.slice A m c,.slice A' m' c']:=by
 obtain⟨f,u,w,l1,l2,h1,⟨A,c,rfl,_,_⟩,⟨A',c',rfl,_,_⟩,_⟩:=h
 exact⟨f,A,_,c,A',_,c',DS h1⟩
theorem bV.rat{H:Heap}{vs:List Value}{q:Rat}{N:Nat}(h:bV H vs q)(hs:aN q≤N):dI N H vs q:=cT.mono (bH.raw h) hs
theorem bS.cells{H:Heap}{vs:List Value}{q:Rat}(h:bS H vs q):∃n d b,vs = [.int .i64 n,.int .i64 d,.pointer b]:=by
 obtain⟨n,d,b,h,_⟩:=h;exact⟨n,d,b,h⟩
theorem afG(H:Heap)(g:Nat)(xs vs:List Value)(s e k sz:Nat):ins (ins H g ⟨xs,s,e,true⟩) g {(⟨xs,s,e,true⟩:Ent)with xs:=aJ xs (0+k*sz) vs}=ins H g ⟨aJ xs (k*sz) vs,s,e,true⟩:=by
 rw[mO,Nat.zero_add]
theorem dQ{H:Heap}{g:Nat}{xs:List Value}{s e:Nat}{b:Bool}(h:H g=some ⟨xs,s,e,b⟩):Rd H (some ⟨g,0,none⟩) xs:=fun i v hv=>⟨_,rfl,by simp[cell,im,h,hv]⟩
theorem vD{q:Rat}(h:fI q=0):q=0:=by
 unfold fI at h
 split at h
 ·omega
 ·split at h
  ·assumption
  ·omega
theorem Wu:aN 0=1:=by
 unfold aN
 show max (al 0).length (al 1).length=1
 rw[qk,vt];rfl
theorem Wv{f g:Nat→Rat}{s n:Nat}(hf:∀k,k<n→aN (f k)≤s∧aN (g k)≤s):∀k,k≤n→aN (a7 k (fun j=>f j*g j))≤k*(2*s+1)+1:=by
 intro k
 induction k with
 | zero=>intro _;rw[DL,Wu];omega
 | succ k ih=>
  intro hk
  have h1:=ih (by omega)
  have h2:=vx (f k) (g k)
  have h3:=O3 (a7 k (fun j=>f j*g j)) (f k*g k)
  have h4:=hf k (by omega)
  rw[gq,Nat.add_mul]
  omega
theorem Pr{l:List Rat}{s:Nat}(h:∀q,q∈l→aN q≤s){k:Nat}(hk:k<l.length):aN (fn l k)≤s:=by
 rw[oN (List.getElem?_eq_getElem hk)];exact h _ (List.getElem_mem hk)
def afH(H:Heap)(l:List Rat)(v:Value)(H':Heap):Prop:=∃g xs,H g=none∧v = .slice (some ⟨g,0,none⟩) l.length l.length∧H'=ins H g ⟨xs,l.length*3,121,true⟩∧∀K:Heap,bA (bS K) 3 xs l
def Ps{α:Type}(P:Heap→List Value→α→Prop)(sz:Nat)(H:Heap)(l:List α)(v:Value)(H':Heap):Prop:=Heap.le H H'∧aQ P sz H' v l
theorem afI{H:Heap}{n:Nat}(hn:(n:Int)≤8796093022208):
 Fn Tryz.prog 90 #[.int .i64 (n:Int)] H (afH H (List.replicate n 0)):=by
 refine aZ (args:=[_]) Tryz.func90 rfl rfl Tryz.ntmps90 rfl rfl fun w0=> ?_;refine ah [0] rfl ?_;refine ae (aa 1 rfl (ab [0] ?_));refine ae (aa 1 rfl (gP Tryz.underlying117 ff rfl rfl rfl (by omega) (by omega) (by omega) (by omega) ?_));intro g hg;rw[show ((n:Int)).toNat=n from by omega]
 have hz:∀K:Heap,bA (ic bS K) 3 (dd [.int .i64 0,.int .i64 0,.pointer none] (n*3)) (fill (List.replicate n (0:Rat)) 0):=fun K=>by have:=BF (P:=bS) (H:=K) (zs:=[.int .i64 0,.int .i64 0,.pointer none]) rfl (List.replicate n (0:Rat));rwa [List.length_replicate]at this
 refine aa 1 rfl (ab [3] ?_);refine ao (ae (aa 3 rfl (ab [3,8,9] ?_)));refine aE (gn (fun(k:Nat)(xs:List Value)=>n-k) (fun(k:Nat)(xs:List Value)=>put (put (put (emp) 3 (.val (.slice (some ⟨g,0,none⟩) n n))) 8 (.val (.int .i64 (n:Int)))) 9 (.val (.int .i64 (k:Int)))) (fun(k:Nat)(xs:List Value) H'=>H'=ins H g ⟨xs,n*3,121,true⟩∧k≤n∧∀K:Heap,bA (ic bS K) 3 xs (fill (List.replicate n (0:Rat)) k)) 0 _ (⟨rfl,Nat.zero_le _,hz⟩) ar ?_);rintro k xs H1 ⟨rfl,hk,he⟩;have lN:=mX (l:=List.replicate n (0:Rat)) (k:=k) (by simpa using hk);have cZ:=(he H).len;rw[lN,List.length_replicate]at cZ;refine ae (aa 1 rfl (ab [3,8,9,10] ?_));refine ao (aD rfl (fun hb=> ?_) (fun hb=> ?_))
 ·
  have hb:k<n:=by simpa using hb
  refine az (ah [3,8,9] rfl ?_);refine ao (aE (ae (aa 2 rfl (ab [3,4,8,9] ?_))));refine aA rfl (aa 2 rfl (aC rfl rfl (xa) ?_));rintro v1 H1 ⟨e1,rfl⟩;rw[e1];obtain⟨ti,aj,ak⟩:=cH;refine cV (.inl rfl) ag rfl rfl rfl (by omega) (by omega) (bn _ _ _) rfl (by show 0+n*3≤xs.length;omega) aj ak (fun _=>rfl) rfl rfl rfl fun _=> ?_;refine au (ah [3,8,9] rfl ?_);refine aA rfl (aF rfl rfl ⟨by omega,by omega⟩ (aa 1 rfl (au ?_)));exact⟨k+1,_,by omega,ar,afG H g xs _ _ _ k 3,by omega,fun K=>by rw[←zi (a:=(0:Rat)) (by rw[List.getElem?_replicate,if_pos hb])];exact(he K).set (by rw[lN,List.length_replicate];exact hb) (w9 K (n:=0) (by decide) (by decide)) rfl⟩
 ·
  have hb:n≤k:=by simpa using hb
  obtain rfl:k=n:=by omega
  refine aX (ah [3] rfl ?_);refine ae (aa 2 rfl (ab [2] ?_));refine aB ⟨.inr rfl,_,.tmp rfl (.nil),?_⟩;refine⟨g,xs,hg,by rw[List.length_replicate];rfl,by rw[List.length_replicate],fun K=>DR (l:=List.replicate k (0:Rat)) (by rw[List.length_replicate];exact he K)⟩
theorem Ww{H:Heap}{v:Value}{l:List Rat}{N:Nat}(hv:aQ (dI N) 3 H v l)(hN:(N:Int)≤1099511627776)(hl:(l.length:Int)≤1099511627776):
 Fn Tryz.prog 91 #[v] H (Ps bS 3 H l):=by
 obtain⟨A,c,ys,rfl,hc,hr,ix⟩:=hv;refine aZ (args:=[_]) Tryz.func91 rfl rfl Tryz.ntmps91 rfl rfl fun w0=> ?_;refine ah [0] rfl ?_;refine ae (aa 1 rfl (ab [0] ?_));refine ae (aa 2 rfl (gP Tryz.underlying117 ff rfl rfl rfl (by omega) (by omega) (by omega) (by omega) ?_));intro g hg;rw[show ((l.length:Int)).toNat=l.length from by omega];have hz:bA (ic bS (rem (ins H g ⟨dd [.int .i64 0,.int .i64 0,.pointer none] (l.length*3),l.length*3,121,true⟩) [g])) 3 (dd [.int .i64 0,.int .i64 0,.pointer none] (l.length*3)) (fill l 0):=BF (sz:=3) (by rfl) l;refine aa 1 rfl (ab [0,3] ?_);refine ao (ae (aa 3 rfl (ab [3,9,10,11] ?_)));refine aE (gn (fun(k:Nat)(xs:List Value)=>l.length-k) (fun(k:Nat)(xs:List Value)=>put (put (put (put (emp) 3 (.val (.slice (some ⟨g,0,none⟩) l.length l.length))) 9 (.val (.slice A l.length c))) 10 (.val (.int .i64 (l.length:Int)))) 11 (.val (.int .i64 (k:Int)))) (fun(k:Nat)(xs:List Value) H'=>Heap.le H (rem H' [g])∧H' g=some ⟨xs,l.length*3,121,true⟩∧k≤l.length∧bA (ic bS (rem H' [g])) 3 xs (fill l k)) 0 _ (⟨by rw[tF _ hg,qv];exact .refl _,bn _ _ _,Nat.zero_le _,hz⟩) ar ?_);rintro k xs H1 ⟨hle,lO,hk,he⟩;have lN:=mX (l:=l) (k:=k) hk
 have cZ:=he.len;rw[lN]at cZ;have oP:=hle.trans (bD H1 [g]);refine ae (aa 1 rfl (ab [3,9,10,11,12] ?_));refine ao (aD rfl (fun hb=> ?_) (fun hb=> ?_))
 ·
  have hb:k<l.length:=by simpa using hb
  obtain⟨q,ie⟩:∃q,l[k]? = some q:=⟨_,List.getElem?_eq_getElem hb⟩;obtain⟨vs,jl,Gr,Pt⟩:=ix.get ie;obtain⟨f,A1,m1,c1,A2,m2,c2,rfl⟩:=Gr.cells;have Pu:cT (rem H1 [g]) _ q N:=cT.le Gr hle;refine az (ah [3,9,10,11] rfl ?_);refine ao (aE (ae (aa 1 rfl (cj (vs:=[.bool f,.slice A1 m1 c1,.slice A2 m2 c2]) ag rfl rfl rfl rfl (hr.le oP) rfl (by decide) Pt (by omega) (by omega) fun _=>(bh bQ rfl (vr 1 ?_))))));obtain⟨ti,aj,ak⟩:=aU;refine aH (.inl ⟨rfl,rfl⟩) rfl rfl rfl aj ak rfl rfl rfl (ab [3,4,5,9,10,11] ?_);refine aA rfl (aa 3 rfl (aC rfl rfl (Fn.frame (gs:=[g]) (fun q hq=>by simp only[List.mem_singleton]at hq;subst hq;rw[lO];simp) (O4 Pu hN)) ?_));rintro v2 H2 ⟨⟨dP,O5,rfl,bU⟩,lJ⟩;obtain⟨n2,d2,b2,rfl,_⟩:=id bU;have ep:=(lJ g (List.mem_singleton.2 rfl)).trans lO;obtain⟨ti,aj,ak⟩:=cH;refine cV (.inl rfl) ag rfl rfl rfl (by omega) (by omega) (ep) rfl (by show 0+l.length*3≤xs.length;omega) aj ak (fun _=>rfl) rfl rfl rfl fun _=> ?_;refine au (ah [3,9,10,11] rfl ?_);refine aA rfl (aF rfl rfl ⟨by omega,by omega⟩ (aa 1 rfl (au ?_)));refine⟨k+1,aJ xs (k*3) [.int .i64 n2,.int .i64 d2,.pointer b2],by omega,ar,?_,?_,by omega,?_⟩
  ·rw[cE _ (List.mem_singleton.2 rfl)];exact hle.trans dP
  ·rw[bn,Nat.zero_add];rfl
  ·
   rw[cE _ (List.mem_singleton.2 rfl),←zi ie];exact(he.mono fun vs a=>ic.up jc _ _ vs a dP).set (by rw[lN];exact hb) bU rfl
 ·
  have hb:l.length≤k:=by simpa using hb
  obtain rfl:k=l.length:=by omega
  refine aX (ah [3] rfl ?_);refine ae (aa 2 rfl (ab [2] ?_));refine aB ⟨.inr rfl,_,.tmp rfl (.nil),?_⟩;exact⟨hle.trans (bD _ _),some ⟨g,0,none⟩,l.length,xs,rfl,Nat.le_refl _,dQ lO,(DR he).mono fun vs a=>jc _ _ vs a (bD _ _)⟩
theorem Wx{H:Heap}{v:Value}{l:List Rat}(hv:aQ bS 3 H v l)(hN:∀q,q∈l→(aN q:Int)≤1099511627776)(hl:(l.length:Int)≤1099511627776):
 Fn Tryz.prog 129 #[v] H (Ps bV 3 H l):=by
 obtain⟨A,c,ys,rfl,hc,hr,ix⟩:=hv;refine aZ (args:=[_]) Tryz.func129 rfl rfl Tryz.ntmps129 rfl rfl fun w0=> ?_;refine ah [0] rfl ?_;refine ae (aa 1 rfl (ab [0] ?_));refine ae (aa 2 rfl (gP Tryz.underlying28 bQ rfl rfl rfl (by omega) (by omega) (by omega) (by omega) ?_));intro g hg;rw[show ((l.length:Int)).toNat=l.length from by omega];have hz:bA (ic bV (rem (ins H g ⟨dd [.bool false,.slice none 0 0,.slice none 0 0] (l.length*3),l.length*3,38,true⟩) [g])) 3 (dd [.bool false,.slice none 0 0,.slice none 0 0] (l.length*3)) (fill l 0):=BF (sz:=3) (by rfl) l;refine aa 1 rfl (ab [0,3] ?_);refine ao (ae (aa 3 rfl (ab [3,9,10,11] ?_)));refine aE (gn (fun(k:Nat)(xs:List Value)=>l.length-k) (fun(k:Nat)(xs:List Value)=>put (put (put (put (emp) 3 (.val (.slice (some ⟨g,0,none⟩) l.length l.length))) 9 (.val (.slice A l.length c))) 10 (.val (.int .i64 (l.length:Int)))) 11 (.val (.int .i64 (k:Int)))) (fun(k:Nat)(xs:List Value) H'=>Heap.le H (rem H' [g])∧H' g=some ⟨xs,l.length*3,38,true⟩∧k≤l.length∧bA (ic bV (rem H' [g])) 3 xs (fill l k)) 0 _ (⟨by rw[tF _ hg,qv];exact .refl _,bn _ _ _,Nat.zero_le _,hz⟩) ar ?_);rintro k xs H1 ⟨hle,lO,hk,he⟩;have lN:=mX (l:=l) (k:=k) hk
 have cZ:=he.len;rw[lN]at cZ;have oP:=hle.trans (bD H1 [g]);refine ae (aa 1 rfl (ab [3,9,10,11,12] ?_));refine ao (aD rfl (fun hb=> ?_) (fun hb=> ?_))
 ·
  have hb:k<l.length:=by simpa using hb
  obtain⟨q,ie⟩:∃q,l[k]? = some q:=⟨_,List.getElem?_eq_getElem hb⟩;obtain⟨vs,jl,Gr,Pt⟩:=ix.get ie;obtain⟨n1,d1,b1,rfl⟩:=Gr.cells;have Pu:=Gr.le hle;refine az (ah [3,9,10,11] rfl ?_);refine ao (aE (ae (aa 1 rfl (cj (vs:=[.int .i64 n1,.int .i64 d1,.pointer b1]) ag rfl rfl rfl rfl (hr.le oP) rfl (by decide) Pt (by omega) (by omega) fun _=>(bh ff rfl (vr 1 ?_))))));obtain⟨ti,aj,ak⟩:=cH;refine aH (.inl ⟨rfl,rfl⟩) rfl rfl rfl aj ak rfl rfl rfl (ab [3,4,5,9,10,11] ?_);refine aA rfl (aa 3 rfl (aC rfl rfl (Fn.frame (gs:=[g]) (fun q hq=>by simp only[List.mem_singleton]at hq;subst hq;rw[lO];simp) (VM Pu (hN q (List.mem_of_getElem? ie)))) ?_));rintro v2 H2 ⟨⟨dP,bU⟩,lJ⟩;obtain⟨u2,w2,rfl,fQ,jA⟩:=id bU;obtain⟨A2,c2,rfl,mU,kQ⟩:=id fQ;obtain⟨A3,c3,rfl,rR,qu⟩:=id jA;have ep:=(lJ g (List.mem_singleton.2 rfl)).trans lO;obtain⟨ti,aj,ak⟩:=aU;refine cV (.inl rfl) ag rfl rfl rfl (by omega) (by omega) (ep) rfl (by show 0+l.length*3≤xs.length;omega) aj ak (fun _=>rfl) rfl rfl rfl fun _=> ?_;refine au (ah [3,9,10,11] rfl ?_);refine aA rfl (aF rfl rfl ⟨by omega,by omega⟩ (aa 1 rfl (au ?_)))
  refine⟨k+1,aJ xs (k*3) [.bool (decide (q.num<0)),.slice A2 (al q.num.natAbs).length c2,.slice A3 (al q.den).length c3],by omega,ar,?_,?_,by omega,?_⟩
  ·rw[cE _ (List.mem_singleton.2 rfl)];exact hle.trans dP
  ·rw[bn,Nat.zero_add];rfl
  ·
   rw[cE _ (List.mem_singleton.2 rfl),←zi ie];exact(he.mono fun vs a=>ic.up cX _ _ vs a dP).set (by rw[lN];exact hb) (show bV _ _ q from bU) rfl
 ·
  have hb:l.length≤k:=by simpa using hb
  obtain rfl:k=l.length:=by omega
  refine aX (ah [3] rfl ?_);refine ae (aa 2 rfl (ab [2] ?_));refine aB ⟨.inr rfl,_,.tmp rfl (.nil),?_⟩;exact⟨hle.trans (bD _ _),some ⟨g,0,none⟩,l.length,xs,rfl,Nat.le_refl _,dQ lO,(DR he).mono fun vs a=>cX _ _ vs a (bD _ _)⟩
end Go.aq
namespace Lp
namespace av
def se(T:av)(j:Nat):Prop:=∃k,k<T.m∧T.B k=j
section
variable {T S:av}
theorem Wy(hT:T.WF)(h:Same T S){i j:Nat}(hi:i<S.m)(hj:j≤T.n):S.A i j=a7 T.m (fun k=>S.A i (T.B k)*T.A k j):=by
 have h1:=(h.nI _).2 (za hT j hj) i hi
 rw[h.n,DM T hT.lt j hj]at h1
 grind
theorem afJ(hT:T.WF)(h:Same T S){j:Nat}(hj:j≤T.n):S.c j=T.c j+a7 T.m (fun k=>S.c (T.B k)*T.A k j):=by
 have h1:=h.cost _ (za hT j hj)
 rw[DN hT j hj]at h1
 unfold cost at h1
 rw[h.n,DM T hT.lt j hj]at h1
 grind
theorem exchange(hT:T.WF)(hS:S.WF)(h:Same T S){i0:Nat}(hi:i0<S.m)(hn:¬T.se (S.B i0)):∃r,r<T.m∧T.A r (S.B i0)≠0∧¬S.se (T.B r):=by
 false_or_by_contra
 rename_i hc
 have bX:=hS.lt i0 hi
 have h1:=Wy hT h hi (j:=S.B i0) (by rw[h.n]at bX;omega)
 rw[hS.unit i0 i0 hi hi,if_pos rfl,lM]at h1
 ·grind
 ·intro k hk
  by_cases e:T.A k (S.B i0)=0
  ·rw[e];grind
  ·by_cases hb:S.se (T.B k)
   ·obtain⟨i',eX,e'⟩:=hb
    have bo:i0≠i':=fun e0=>hn ⟨k,hk,by rw[e0];exact e'.symm⟩
    rw[←e',hS.unit i' i0 eX hi,if_neg bo];grind
   ·exact absurd ⟨k,hk,e,hb⟩ hc
open Classical in
noncomputable def tT(T S:av):Nat:=(List.range S.m).countP fun i=>decide (¬T.se (S.B i))
theorem afK{r s j:Nat}(h:T.se j)(hj:j≠T.B r):(T.pivot r s).se j:=by
 obtain⟨k,hk,e⟩:=h
 refine⟨k,hk,?_⟩
 show (if k=r then s else T.B k)=j
 rw[if_neg (fun e'=>hj (by rw[←e,e'])),e]
theorem afL{r i0:Nat}(hr:r<T.m)(hi:i0<S.m)(hn:¬T.se (S.B i0))(hb:¬S.se (T.B r)):tT (T.pivot r (S.B i0)) S<tT T S:=by
 unfold tT
 refine VW _ _ _ (fun i AO hd=> ?_) ⟨i0,List.mem_range.2 hi,?_,?_⟩
 ·simp only[decide_eq_true_eq]at hd⊢
  exact fun lj=>hd (afK lj (fun e=>hb ⟨i,List.mem_range.1 AO,e⟩))
 ·simp only[decide_eq_true_eq];exact hn
 ·simp only[decide_eq_false_iff_not,Classical.not_not]
  exact⟨r,hr,by show (if r=r then S.B i0 else T.B r)=_;rw[if_pos rfl]⟩
def fo(D X:Nat)(q:Rat):Prop:=∃z:Int,q*(D:Rat)=(z:Rat)∧z.natAbs≤X
def lP(n j k z:Nat):Nat:=if j=n then k else z
structure BdD(D0 f e D:Nat)(T:av):Prop where
 pos:0<D
 le:D≤2^e
 A:∀i,i<T.m→∀j,j≤T.n→fo (D*lP T.n j D0 1) (2^(e+lP T.n j f 0)) (T.A i j)
 c:∀j,j≤T.n→fo (D*lP T.n j D0 1) (2^(e+lP T.n j f 0)) (T.c j)
def Bd(D0 f e:Nat)(T:av):Prop:=∃D:Nat,BdD D0 f e D T
theorem DT{n j k z:Nat}(h:j<n):lP n j k z=z:=if_neg (by omega)
theorem K1{n k z:Nat}:lP n n k z=k:=if_pos rfl
theorem fo.mono{D X Y:Nat}{q:Rat}(h:fo D X q)(hl:X≤Y):fo D Y q:=by
 obtain⟨z,h1,h2⟩:=h
 exact⟨z,h1,Nat.le_trans h2 hl⟩
theorem Bd.mono{D0 f e e':Nat}(h:Bd D0 f e T)(hl:e≤e'):Bd D0 f e' T:=by
 obtain⟨D,h1,h2,h3,h4⟩:=h
 have hp:∀k,2^(e+k)≤2^(e'+k):=fun k=>Nat.pow_le_pow_right (by decide) (by omega)
 exact⟨D,h1,Nat.le_trans h2 (hp 0),fun i hi j hj=>(h3 i hi j hj).mono (hp _),fun j hj=>(h4 j hj).mono (hp _)⟩
theorem natAbs_sub_le(a b:Int):(a-b).natAbs≤a.natAbs+b.natAbs:=by omega
theorem Pv{D K:Nat}{N z1 z2 z3:Int}{a b c d:Rat}{X Y:Nat}(hD:(D:Rat)≠0)(hN:(N:Rat)≠0)(h:d*(D:Rat)=(N:Rat))(h1:a*((D*K:Nat):Rat)=(z1:Rat))(h2:b*(D:Rat)=(z2:Rat))(h3:c*((D*K:Nat):Rat)=(z3:Rat))
  (k1:z1.natAbs≤Y) (k2:z2.natAbs≤X) (k3:z3.natAbs≤Y) (k:N.natAbs≤X):fo (D*N.natAbs*K) (2*(X*Y)) (a-b*(c/d)):=by
 refine⟨N.sign*(z1*N-z2*z3),?_,?_⟩
 ·have e1:((D*N.natAbs*K:Nat):Rat)=(D:Rat)*((N.sign:Rat)*(N:Rat))*(K:Rat):=by
   have rZ:(N.natAbs:Int)=N.sign*N:=by
    rcases Int.lt_trichotomy N 0 with h | h | h
    ·rw[Int.sign_eq_neg_one_of_neg h];omega
    ·subst h;rfl
    ·rw[Int.sign_eq_one_of_pos h];omega
   have:((N.natAbs:Int):Rat)=((N.sign*N:Int):Rat):=by rw[rZ]
   rw[Rat.natCast_mul,Rat.natCast_mul]
   have h0:((N.natAbs:Nat):Rat)=((N.natAbs:Int):Rat):=rfl
   rw[h0,this,Rat.intCast_mul]
  have hd:d≠0:=fun e=>by rw[e]at h;grind
  rw[Rat.natCast_mul]at h1 h3
  rw[e1,Rat.intCast_mul,Rat.intCast_sub,Rat.intCast_mul,Rat.intCast_mul,←h1,←h2,←h3,←h]
  grind
 ·have hs:N.sign.natAbs≤1:=by
   rw[Int.natAbs_sign];split <;> omega
  rw[Int.natAbs_mul]
  have h4:=natAbs_sub_le (z1*N) (z2*z3)
  rw[Int.natAbs_mul,Int.natAbs_mul]at h4
  have h5:z1.natAbs*N.natAbs≤X*Y:=by rw[Nat.mul_comm];exact Nat.mul_le_mul k k1
  have h6:z2.natAbs*z3.natAbs≤X*Y:=Nat.mul_le_mul k2 k3
  have h7:N.sign.natAbs*(z1*N-z2*z3).natAbs≤1*(z1*N-z2*z3).natAbs:=Nat.mul_le_mul_right _ hs
  omega
theorem Pw(e f:Nat):2*(2^e*2^(e+f))=2^(2*e+1+f):=by
 rw[show 2*e+1+f=(e+(e+f))+1 by omega,Nat.pow_succ,Nat.pow_add 2 e (e+f),Nat.mul_comm]
theorem Bd.pivot{D0 f e r s:Nat}(h:Bd D0 f e T)(hr:r<T.m)(hs:s<T.n)(hp:T.A r s≠0):Bd D0 f (2*e+1) (T.pivot r s):=by
 obtain⟨D,h1,h2,h3,h4⟩:=h
 have one:∀{q:Rat},fo (D*lP T.n s D0 1) (2^(e+lP T.n s f 0)) q→fo D (2^e) q:=fun h=>by rwa [DT hs,DT hs,Nat.mul_one]at h
 obtain⟨N,hN,K2⟩:=one (h3 r hr s (by omega))
 have hD:(D:Rat)≠0:=fun e=>by
  have:D=0:=by exact_mod_cast e
  omega
 have DU:(N:Rat)≠0:=by
  rw[←hN]
  intro e0
  rcases Rat.mul_eq_zero.1 e0 with h | h
  ·exact hp h
  ·exact hD h
 have hNz:N≠0:=fun e=>DU (by rw[e];rfl)
 refine⟨D*N.natAbs,Nat.mul_pos h1 (by omega),?_,fun i hi j hj=> ?_,fun j hj=> ?_⟩
 ·have:=Pw e 0
  rw[Nat.add_zero,Nat.add_zero]at this
  rw[←this]
  have:=Nat.mul_le_mul h2 K2
  omega
 ·show fo (D*N.natAbs*lP T.n j D0 1) (2^(2*e+1+lP T.n j f 0)) _
  rw[←Pw]
  obtain⟨z3,k3,l3⟩:=h3 r hr j hj
  show fo _ _ (if i=r then T.A r j/T.A r s else T.A i j-T.A i s*(T.A r j/T.A r s))
  by_cases e':i=r
  ·rw[if_pos e']
   have e3:(-1:Rat)*(D:Rat)=((-(D:Int):Int):Rat):=by
    rw[Rat.intCast_neg]
    have:((D:Int):Rat)=(D:Rat):=rfl
    rw[this];grind
   have:=Pv (z1:=0) (a:=0) (z2:= -(D:Int)) (b:= -1) hD DU hN (by grind) e3 k3 (by omega) (by omega) l3 K2
   have e2:(0:Rat) - -1*(T.A r j/T.A r s)=T.A r j/T.A r s:=by grind
   rwa [e2]at this
  ·rw[if_neg e']
   obtain⟨z1,k1,l1⟩:=h3 i hi j hj
   obtain⟨z2,k2,l2⟩:=one (h3 i hi s (by omega))
   exact Pv hD DU hN k1 k2 k3 l1 l2 l3 K2
 ·show fo (D*N.natAbs*lP T.n j D0 1) (2^(2*e+1+lP T.n j f 0)) _
  rw[←Pw]
  obtain⟨z3,k3,l3⟩:=h3 r hr j hj
  obtain⟨z1,k1,l1⟩:=h4 j hj
  obtain⟨z2,k2,l2⟩:=one (h4 s (by omega))
  exact Pv hD DU hN k1 k2 k3 l1 l2 l3 K2
theorem reach{D0 f:Nat}(hS:S.WF):∀(k e:Nat)(T:av),T.WF→Same T S→Bd D0 f e T→tT T S≤k→∃T':av,T'.WF∧Same T' S∧(∀i,i<S.m→T'.se (S.B i))∧Bd D0 f (2^k*(e+1)-1) T':=by
 intro k
 induction k with
 | zero=>
  intro e T hT h hb hc
  refine⟨T,hT,h,fun i hi=> ?_,by rw[Nat.pow_zero,Nat.one_mul];exact hb⟩
  false_or_by_contra
  rename_i hn
  have:0<tT T S:=by
   unfold tT
   exact List.countP_pos_iff.2 ⟨i,List.mem_range.2 hi,by simp only[decide_eq_true_eq];exact hn⟩
  omega
 | succ k ih=>
  intro e T hT h hb hc
  by_cases ha:∀i,i<S.m→T.se (S.B i)
  ·refine⟨T,hT,h,ha,hb.mono ?_⟩
   have:1*(e+1)≤2^(k+1)*(e+1):=Nat.mul_le_mul_right _ Nat.one_le_two_pow
   omega
  ·obtain⟨i0,ha⟩:=Classical.not_forall.1 ha
   obtain⟨hi,hn⟩:=Classical.not_imp.1 ha
   obtain⟨r,hr,hp,vk⟩:=exchange hT hS h hi hn
   have bX:=hS.lt i0 hi
   rw[h.n]at bX
   obtain⟨T',h1,h2,h3,h4⟩:=ih (2*e+1) (T.pivot r (S.B i0)) (Bs hT hr bX hp) ((Same.pivot hr hp).symm.trans h) (hb.pivot hr bX hp) (by have:=afL hr hi hn vk;omega)
   refine⟨T',h1,h2,h3,?_⟩
   have e2:2^k*(2*e+1+1)=2^(k+1)*(e+1):=by
    rw[Nat.pow_succ,Nat.mul_assoc]
    congr 1
   rwa [e2]at h4
theorem afM{D0 f e k:Nat}(hT:T.WF)(hS:S.WF)(h:Same T S)(hb:Bd D0 f e T)(hk:tT T S≤k):Bd D0 f (2^k*(e+1)-1) S:=by
 obtain⟨T',h1,h2,h3,D,hD,hX,hA,hC⟩:=reach hS k e T hT h hb hk
 have lj:∀i,i<S.m→∀k,k<T'.m→∀i',i'<S.m→T'.B k=S.B i→T'.A k (S.B i')=if i'=i then 1 else 0:=by
  intro i hi k hk i' eX e
  obtain⟨k',iI,e'⟩:=h3 i' eX
  rw[←e',h1.unit k' k iI hk]
  by_cases e0:i'=i
  ·rw[if_pos e0,if_pos (h1.inj hk iI (by rw[e,e',e0]))]
  ·rw[if_neg e0,if_neg (fun e1=>e0 (hS.inj eX hi (by rw[←e',←e,e1])))]
 refine⟨D,hD,hX,fun i hi j hj=> ?_,fun j hj=> ?_⟩
 ·obtain⟨k,hk,e⟩:=h3 i hi
  have h4:=Wy hS h2.symm (i:=k) (j:=j) hk hj
  rw[tQ (k:=i) hi _ (fun i' eX bo=>by rw[lj i hi k hk i' eX e,if_neg bo];grind),lj i hi k hk i hi e,if_pos rfl]at h4
  have h5:=hA k hk j (by rw[←h2.n];exact hj)
  rw[h4,←h2.n]at h5
  have e6:1*S.A i j=S.A i j:=by grind
  rwa [e6]at h5
 ·have h4:=afJ hS h2.symm (j:=j) hj
  rw[lM]at h4
  ·have h5:=hC j (by rw[←h2.n];exact hj)
   rw[h4,←h2.n]at h5
   have e6:S.c j+0=S.c j:=by grind
   rwa [e6]at h5
  ·intro i hi
   obtain⟨k,hk,e⟩:=h3 i hi
   rw[←e,h1.zero k hk];grind
theorem afN(T S:av):tT T S≤S.m:=by
 unfold tT
 exact Nat.le_trans List.countP_le_length (by rw[List.length_range];exact Nat.le_refl _)
theorem Wz:∀(n:Nat)(l:List Nat),l.Nodup→(∀x,x∈l→x<n)→l.length≤n
 | 0,l,_,h=>by
  cases l with
  | nil=>exact Nat.le_refl _
  | cons x l=>exact absurd (h x (List.mem_cons_self ..)) (Nat.not_lt_zero _)
 | n+1,l,hd,h=>by
  have h1:=Wz n (l.erase n) (hd.erase n) fun x hx=>by
   have h2:=(hd.mem_erase_iff).1 hx
   have:=h x h2.2
   have:=h2.1
   omega
  have h2:l.length≤(l.erase n).length+1:=by
   rw[List.length_erase];split <;> omega
  omega
theorem Px{f:Nat→Nat}:∀{l:List Nat},l.Nodup→(∀x,x∈l→∀y,y∈l→f x=f y→x=y)→(l.map f).Nodup
 | [],_,_=>List.nodup_nil
 | x::l,h,hi=>by
  rw[List.nodup_cons]at h
  rw[List.map_cons,List.nodup_cons]
  refine⟨fun hm=> ?_,Px h.2 fun y hy z hz=>hi y (List.mem_cons_of_mem _ hy) z (List.mem_cons_of_mem _ hz)⟩
  obtain⟨y,hy,e⟩:=List.mem_map.1 hm
  have:=hi y (List.mem_cons_of_mem _ hy) x (List.mem_cons_self ..) e
  exact h.1 (this▸hy)
open Classical in
theorem afO(hT:T.WF)(hS:S.WF)(h:Same T S):tT T S+T.m≤T.n:=by
 unfold tT
 rw[List.countP_eq_length_filter]
 generalize hl:(List.range S.m).filter (fun i=>decide (¬T.se (S.B i)))=l
 have pQ:∀i,i∈l→i<S.m∧¬T.se (S.B i):=fun i hi=>by
  rw[←hl,List.mem_filter]at hi
  exact⟨List.mem_range.1 hi.1,of_decide_eq_true hi.2⟩
 have Py:l.Nodup:=by rw[←hl];exact List.Pairwise.filter _ List.nodup_range
 have h1:=Wz T.n (l.map S.B++(List.range T.m).map T.B) ?_ ?_
 ·rwa [List.length_append,List.length_map,List.length_map,List.length_range]at h1
 ·rw[List.nodup_append]
  refine⟨Px Py fun x hx y hy e=>hS.inj (pQ x hx).1 (pQ y hy).1 e,Px List.nodup_range fun x hx y hy e=>hT.inj (List.mem_range.1 hx) (List.mem_range.1 hy) e,fun a ha b hb e=> ?_⟩
  obtain⟨i,hi,rfl⟩:=List.mem_map.1 ha
  obtain⟨k,hk,rfl⟩:=List.mem_map.1 hb
  exact(pQ i hi).2 ⟨k,List.mem_range.1 hk,e.symm⟩
 ·intro x hx
  rcases List.mem_append.1 hx with hx | hx
  ·obtain⟨i,hi,rfl⟩:=List.mem_map.1 hx
   have:=hS.lt i (pQ i hi).1
   rw[←h.n];exact this
  ·obtain⟨i,hi,rfl⟩:=List.mem_map.1 hx
   exact hT.lt i (List.mem_range.1 hi)
theorem afP{D X:Nat}{q:Rat}(hD:0<D)(h:fo D X q):q.num.natAbs≤X∧q.den≤D:=by
 obtain⟨z,h1,h2⟩:=h
 have hD':(D:Rat)≠0:=fun e=>by
  have:D=0:=by exact_mod_cast e
  omega
 have e:mkRat z D=q:=by
  rw[Rat.mkRat_eq_div]
  grind
 obtain⟨k,hk,h3,h4⟩:=Rat.mkRat_num_den (n:=z) (d:=D) (by omega) (n':=q.num) (d':=q.den) (z':=q.den_nz) (c:=q.reduced) e
 refine⟨?_,?_⟩
 ·rw[h3,Int.natAbs_mul,Int.natAbs_natCast]at h2
  exact Nat.le_trans (Nat.le_mul_of_pos_right _ (by omega)) h2
 ·rw[h4]
  exact Nat.le_mul_of_pos_right _ (by omega)
def wt(q:Rat):Nat:=q.num.natAbs.log2+q.den.log2+2
theorem afQ(q:Rat):q.num.natAbs≤2^wt q:=by
 have h1:=Nat.lt_log2_self (n:=q.num.natAbs)
 have h2:=Nat.pow_le_pow_right (n:=2) (by decide) (show q.num.natAbs.log2+1≤wt q by unfold wt;omega)
 omega
theorem afR(q:Rat):q.den≤2^wt q:=by
 have h1:=Nat.lt_log2_self (n:=q.den)
 have h2:=Nat.pow_le_pow_right (n:=2) (by decide) (show q.den.log2+1≤wt q by unfold wt;omega)
 omega
def ig:List Rat→Nat
 | []=>0
 | q::l=>wt q+ig l
def iN:List Rat→Nat
 | []=>1
 | q::l=>q.den*iN l
theorem K3(l:List Rat):0<iN l:=by
 induction l with
 | nil=>exact Nat.one_pos
 | cons q l ih=>exact Nat.mul_pos (Nat.pos_of_ne_zero q.den_nz) ih
theorem DV(l:List Rat):iN l≤2^ig l:=by
 induction l with
 | nil=>exact Nat.le_refl _
 | cons q l ih=>
  simp only[iN,ig,Nat.pow_add]
  exact Nat.mul_le_mul (afR q) ih
theorem afS{l:List Rat}{q:Rat}(h:q∈l):∃k,iN l=q.den*k:=by
 induction l with
 | nil=>cases h
 | cons r l ih=>
  rcases List.mem_cons.1 h with rfl | h
  ·exact⟨_,rfl⟩
  ·obtain⟨k,hk⟩:=ih h
   exact⟨r.den*k,by simp only[iN,hk];rw[Nat.mul_left_comm]⟩
theorem afT{l:List Rat}{q:Rat}(h:q∈l):wt q≤ig l:=by
 induction l with
 | nil=>cases h
 | cons r l ih=>
  simp only[ig]
  rcases List.mem_cons.1 h with rfl | h
  ·omega
  ·have:=ih h;omega
theorem Pz{l:List Rat}{q:Rat}(h:q∈l):fo (iN l) (2^(2*ig l)) q:=by
 obtain⟨k,hk⟩:=afS h
 refine⟨q.num*k,?_,?_⟩
 ·rw[hk,Rat.natCast_mul,Rat.intCast_mul]
  have h1:q*(q.den:Rat)=(q.num:Rat):=by
   have hd:(q.den:Rat)≠0:=fun e=>q.den_nz (by exact_mod_cast e)
   have e:=Rat.mkRat_self q
   rw[Rat.mkRat_eq_div]at e
   grind
  have h2:((k:Int):Rat)=(k:Rat):=rfl
  rw[h2,←h1];grind
 ·rw[Int.natAbs_mul,Int.natAbs_natCast]
  have h1:=afQ q
  have h2:=Nat.pow_le_pow_right (n:=2) (by decide) (afT h)
  have h3:k≤iN l:=by
   rw[hk];exact Nat.le_mul_of_pos_left _ (Nat.pos_of_ne_zero q.den_nz)
  have h4:=DV l
  rw[Nat.two_mul,Nat.pow_add]
  exact Nat.mul_le_mul (Nat.le_trans h1 h2) (Nat.le_trans h3 h4)
theorem WA(l:List Rat)(z:Int)(hz:z.natAbs≤1):fo (iN l) (2^(2*ig l)) (z:Rat):=by
 refine⟨z*iN l,?_,?_⟩
 ·rw[Rat.intCast_mul];rfl
 ·rw[Int.natAbs_mul,Int.natAbs_natCast]
  have h1:z.natAbs*iN l≤1*iN l:=Nat.mul_le_mul_right _ hz
  have h2:=DV l
  have h3:=Nat.pow_le_pow_right (n:=2) (by decide) (show ig l≤2*ig l by omega)
  omega
theorem fo.neg{D X:Nat}{q:Rat}(h:fo D X q):fo D X (-q):=by
 obtain⟨z,h1,h2⟩:=h
 exact⟨-z,by rw[Rat.intCast_neg,←h1];grind,by omega⟩
theorem fo.sub{D X Y:Nat}{q r:Rat}(h:fo D X q)(k:fo D Y r):fo D (X+Y) (q-r):=by
 obtain⟨z,h1,h2⟩:=h
 obtain⟨y,k1,k2⟩:=k
 exact⟨z-y,by rw[Rat.intCast_sub,←h1,←k1];grind,by omega⟩
theorem K4(D X:Nat):fo D X 0:=⟨0,by grind,by simp⟩
theorem afU{D X:Nat}(m:Nat)(f:Nat→Rat)(h:∀i,i<m→fo D X (f i)):fo D (m*X) (a7 m f):=by
 induction m with
 | zero=>rw[DL];exact K4 _ _
 | succ m ih=>
  rw[gq,Nat.succ_mul]
  obtain⟨z,h1,h2⟩:=ih (fun i hi=>h i (by omega))
  obtain⟨y,k1,k2⟩:=h m (by omega)
  exact⟨z+y,by rw[Rat.intCast_add,←h1,←k1];grind,by omega⟩
end
end av
end Lp
namespace Go.aq
open Go.Proofs Num Lp
def aK(f:Nat→Rat)(n:Nat):List Rat:=(List.range n).map f
theorem bB(f:Nat→Rat)(n:Nat):(aK f n).length=n:=by simp[aK]
theorem dM{f:Nat→Rat}{n j:Nat}(h:j<n):(aK f n)[j]? = some (f j):=by simp[aK,h]
theorem ln{f g:Nat→Rat}{n:Nat}(h:∀j,j<n→f j=g j):aK f n=aK g n:=by
 apply List.ext_getElem?
 intro j
 by_cases hj:j<n
 ·rw[dM hj,dM hj,h j hj]
 ·rw[List.getElem?_eq_none (by rw[bB];omega),List.getElem?_eq_none (by rw[bB];omega)]
theorem DW{f:Nat→Rat}{n j:Nat}(h:j<n):fn (aK f n) j=f j:=oN (dM h)
def lQ(f g:Nat→Rat)(k:Nat)(j:Nat):Rat:=if j<k then f j else g j
theorem afV{f g:Nat→Rat}{n k:Nat}:(aK (lQ f g k) n).set k (f k)=aK (lQ f g (k+1)) n:=by
 apply List.ext_getElem?
 intro j
 by_cases hj:j<n
 ·by_cases e:j=k
  ·subst e
   rw[List.getElem?_set_self (by rw[bB];exact hj),dM hj]
   simp[lQ]
  ·rw[List.getElem?_set_ne (fun e'=>e e'.symm),dM hj,dM hj]
   unfold lQ
   by_cases h:j<k
   ·rw[if_pos h,if_pos (by omega)]
   ·rw[if_neg h,if_neg (by omega)]
 ·rw[List.getElem?_eq_none (by rw[List.length_set,bB];omega),List.getElem?_eq_none (by rw[bB];omega)]
theorem WB{f g:Nat→Rat}{n k:Nat}(h:f k=g k):aK (lQ f g k) n=aK (lQ f g (k+1)) n:=ln fun j _=>by
 unfold lQ
 by_cases e:j=k
 ·subst e;rw[if_neg (by omega),if_pos (by omega),h]
 ·by_cases h':j<k
  ·rw[if_pos h',if_pos (by omega)]
  ·rw[if_neg h',if_neg (by omega)]
theorem WC{f g:Nat→Rat}{n:Nat}:aK (lQ f g 0) n=aK g n:=ln fun j _=>by simp[lQ]
theorem WD{f g:Nat→Rat}{n:Nat}:aK (lQ f g n) n=aK f n:=ln fun j hj=>by simp[lQ,hj]
def lq(K:Heap)(H:Heap)(g:Nat)(l:List Rat):Prop:=∃xs sz,H g=some ⟨xs,sz,121,true⟩∧bA (bS K) 3 xs l
theorem lq.le{K K' H H':Heap}{g:Nat}{l:List Rat}(h:lq K H g l)(hl:Heap.le K K')(hs:H' g=H g):lq K' H' g l:=by
 obtain⟨xs,sz,h1,h2⟩:=h
 exact⟨xs,sz,by rw[hs];exact h1,h2.mono fun vs a=>jc _ _ vs a hl⟩
theorem lq.rd{K H:Heap}{g:Nat}{l:List Rat}(h:lq K H g l){i:Nat}{q:Rat}(hq:l[i]? = some q):∃xs n d b,Rd H (some ⟨g,0,none⟩) xs∧bS K [.int .i64 n,.int .i64 d,.pointer b] q∧∀(j:Nat)(v:Value),[.int .i64 n,.int .i64 d,.pointer b][j]? = some v→xs[i*3+j]? = some v:=by
 obtain⟨xs,sz,h1,h2⟩:=h
 obtain⟨vs,_,h3,h4⟩:=h2.get hq
 obtain⟨n,d,b,rfl⟩:=h3.cells
 exact⟨xs,n,d,b,dQ h1,h3,h4⟩
structure Kept(gs:List Nat)(H H':Heap):Prop where
 le:Heap.le (rem H gs) (rem H' gs)
 same:∀q,q∈gs→H' q=H q
structure fR(gs:List Nat)(g:Nat)(H H':Heap):Prop where
 le:Heap.le (rem H gs) (rem H' gs)
 same:∀q,q∈gs→q≠g→H' q=H q
theorem Kept.refl(gs:List Nat)(H:Heap):Kept gs H H:=⟨.refl _,fun _ _=>rfl⟩
theorem Kept.trans{gs:List Nat}{A B C:Heap}(h:Kept gs A B)(k:Kept gs B C):Kept gs A C:=⟨h.le.trans k.le,fun q hq=>(k.same q hq).trans (h.same q hq)⟩
theorem fR.trans{gs:List Nat}{g:Nat}{A B C:Heap}(h:fR gs g A B)(k:fR gs g B C):fR gs g A C:=⟨h.le.trans k.le,fun q hq bo=>(k.same q hq bo).trans (h.same q hq bo)⟩
theorem Kept.iF{gs:List Nat}{H H':Heap}(h:Kept gs H H')(g:Nat):fR gs g H H':=⟨h.le,fun q hq _=>h.same q hq⟩
theorem fR.ins{gs:List Nat}{g:Nat}{H H':Heap}(h:fR gs g H H')(hg:g∈gs)(e:Ent):fR gs g H (ins H' g e):=
 ⟨by rw[cE _ hg];exact h.le,fun q hq bo=>by rw[bg _ _ bo];exact h.same q hq bo⟩
theorem Kept.of{gs:List Nat}{H H':Heap}{v:Value}{bF:Value→Heap→Prop}(h:qw gs bF H v H')(hl:∀v K,bF v K→Heap.le (rem H gs) K):Kept gs H H':=⟨hl _ _ h.post,h.same⟩
theorem Kept.ne{gs:List Nat}{H H':Heap}(h:Kept gs H H')(hn:∀q,q∈gs→H q≠none):∀q,q∈gs→H' q≠none:=fun q hq=>by rw[h.same q hq];exact hn q hq
structure WE(gs:List Nat)(H:Heap)(q:Rat)(v:Value)(H':Heap):Prop where
 kept:Kept gs H H'
 le:Heap.le H H'
 val:∃n d b,v=N3 n d b∧bS (rem H' gs) [.int .i64 n,.int .i64 d,.pointer b] q
structure FrI(gs:List Nat)(H:Heap)(x:Value)(v:Value)(H':Heap):Prop where
 kept:Kept gs H H'
 le:Heap.le H H'
 val:v=x
theorem Fn.lr{P:Program}{f:FuncId}{args:Array Value}{H:Heap}{gs:List Nat}{q:Rat}(jB:∀g,g∈gs→H g≠none)(h:Fn P f args (rem H gs) (tG (rem H gs) q)):Fn P f args H (WE gs H q):=
 (Fn.frame jB h).mono fun v H' hf=>by
  refine⟨.of hf fun v K hp=>hp.1,hf.le fun v K hp=>hp.1,?_⟩
  obtain⟨_,vs,rfl,hn⟩:=hf.post
  obtain⟨n,d,b,rfl⟩:=hn.cells
  exact⟨n,d,b,rfl,hn⟩
theorem Fn.lR{P:Program}{f:FuncId}{args:Array Value}{H:Heap}{gs:List Nat}{x:Value}(jB:∀g,g∈gs→H g≠none)(h:Fn P f args (rem H gs) (fun v H'=>Heap.le (rem H gs) H'∧v=x)):Fn P f args H (FrI gs H x):=
 (Fn.frame jB h).mono fun v H' hf=>⟨.of hf fun v K hp=>hp.1,hf.le fun v K hp=>hp.1,hf.post.2⟩
theorem lq.set{K H:Heap}{g:Nat}{f b:Nat→Rat}{n k:Nat}{xs:List Value}{sz:Nat}(h2:bA (bS K) 3 xs (aK (lQ f b k) n))(hk:k<n){vs:List Value}(hv:bS K vs (f k))(e:H g=some ⟨aJ xs (k*3) vs,sz,121,true⟩):lq K H g (aK (lQ f b (k+1)) n):=by
 refine⟨_,_,e,?_⟩
 rw[←afV]
 exact h2.set (by rw[bB];exact hk) hv hv.len
end Go.aq
namespace Go.aq
open Go.Proofs Num Lp
theorem WG{H:Heap}{gs:List Nat}{g gl gr:Nat}{ts:List Value}{Ar:Option Addr}{m cr:Nat}{sh:List Value}{row n c1 cl N:Nat}{a b:Nat→Rat}{fs:List Value}{f:Rat}
 (bo:∀q,q∈gs→H q≠none) (hg:g∈gs) (eG:gl∈gs) (DX:gr∈gs) (pQ:gl≠gr) (Gs:g≠gl) (ht:H g=some ⟨ts,9,127,true⟩) (zj:ts[6]? = some (.slice Ar m cr)) (mb:Rd (rem H gs) Ar sh) (xo:row<m) (mg:sh[row]? = some (.slice (some ⟨gr,0,none⟩) n c1))
 (vk:lq (rem H gs) H gr (aK a n)) (jM:lq (rem H gs) H gl (aK b n)) (hf:bS (rem H gs) fs f) (hN:(N:Int)≤549755813888) (hn:(n:Int)≤1099511627776) (sf:aN f≤N) (sa:∀j,j<n→aN (a j)≤N) (sb:∀j,j<n→aN (b j)≤N):
 Fn Tryz.prog 124 #[.pointer (some ⟨g,0,none⟩),.slice (some ⟨gl,0,none⟩) n cl,.int .i64 (row:Int),.agg fs.toArray] H (fun _ H'=>fR gs gl H H'∧lq (rem H' gs) H' gl (aK (fun j=>b j-f*a j) n)):=by
 obtain⟨nf,df,bf,rfl⟩:=hf.cells;refine aZ (args:=[_,_,_,_]) Tryz.func124 rfl rfl Tryz.ntmps124 rfl rfl fun w0=> ?_;refine ah [0,1,2,3] rfl ?_;refine ae (bY rfl rfl (ab [0,1,2,7] ?_));refine ao (ae (aa 1 rfl (aC rfl rfl (Fn.lR bo (tO hf (by omega))) ?_)));rintro v1 H1 ⟨gC,bx,rfl⟩;refine aa 1 rfl (ab [0,1,2,7,12] ?_);refine aD rfl (fun hb=> ?_) (fun hb=> ?_)
 ·
  have hb:f=0:=vD (by simpa using hb);refine aB ⟨.inr rfl,_,.nil,?_⟩;exact⟨gC.iF gl,by rw[ln (g:=b) (fun j _=>by rw[hb];grind)];exact jM.le gC.le (gC.same gl eG)⟩
 ·
  skip
  refine az (ah [0,1,2,7] rfl ?_);refine ae (aa 2 rfl (aW ag rfl rfl rfl (aR ag rfl rfl rfl (by rw[show cell H1 ((⟨g,0,none⟩:Addr).add 6)=ts[6]? by simp[cell,im,gC.same g hg,ht]];exact zj) ?_)));refine aa 1 rfl (aS ag rfl rfl rfl rfl rfl ((mb.le gC.le).le (bD _ _)) (by rw[Int.toNat_natCast];exact mg) (by omega) (by omega) fun _=> ?_);refine aa 2 rfl (ab [1,7,19,20,21] ?_);have PA:=vk.le gC.le (gC.same gr DX);have afW:=jM.le gC.le (gC.same gl eG);have iV:=hf.le gC.le;have PB:=gC.ne bo;clear vk jM hf bo ht mb;refine aE (fY (fun(k:Nat)=>n-k) (fun(k:Nat)=>put (put (put (put (put (emp) 1 (.val (.slice (some ⟨gl,0,none⟩) n cl))) 7 (.box [.int .i64 nf,.int .i64 df,.pointer bf])) 19 (.val (.slice (some ⟨gr,0,none⟩) n c1))) 20 (.val (.int .i64 (n:Int)))) 21 (.val (.int .i64 (k:Int)))) (fun(k:Nat) H'=>fR gs gl H1 H'∧lq (rem H' gs) H' gl (aK (lQ (fun j=>b j-f*a j) b k) n)∧k≤n) 0 (⟨(Kept.refl _ _).iF _,by rw[WC];exact afW,Nat.zero_le _⟩) ar ?_);rintro k H2 ⟨fy,de,fN⟩;have afX:=PA.le fy.le (fy.same gr DX (Ne.symm pQ));have jK:=iV.le fy.le
  have xt:∀q,q∈gs→H2 q≠none:=fun q hq=>by
   by_cases e:q=gl
   ·
    obtain⟨xs,sz,h,_⟩:=de;rw[e,h];simp
   ·rw[fy.same q hq e];exact PB q hq
  refine ae (aa 1 rfl (ab [1,7,19,20,21,22] ?_));refine ao (aD rfl (fun hb=> ?_) (fun hb=> ?_))
  ·
   have ga:k<n:=by simpa using hb
   obtain⟨xr,na,da,ba,oQ,zk,hxr⟩:=afX.rd (dM ga);obtain⟨xl,nl,dl,bl,oR,zl,cZ⟩:=de.rd (dM ga);rw[show lQ (fun j=>b j-f*a j) b k k=b k by simp[lQ]]at zl;have PC:=sa k ga;have WH:=sb k ga;refine az (ah [1,7,19,20,21] rfl ?_);refine ao (aE (ae (aa 1 rfl (cj (vs:=[.int .i64 na,.int .i64 da,.pointer ba]) ag rfl rfl rfl rfl oQ rfl (by decide) hxr (by omega) (by omega) fun _=>(bh ff rfl (vr 1 ?_))))));obtain⟨ti,aj,ak⟩:=cH;refine aH (.inl ⟨rfl,rfl⟩) rfl rfl rfl aj ak rfl rfl rfl (ab [1,7,8,9,19,20,21] ?_);refine ae (aa 1 rfl (aC rfl rfl (Fn.lR xt (tO zk (by omega))) ?_));rintro v3 H3 ⟨dz,eF,rfl⟩;have K5:=dz.ne xt;have yD:=jK.le dz.le;have afY:=zk.le dz.le;have afZ:=zl.le dz.le;refine aa 1 rfl (ab [1,7,8,9,19,20,21,28] ?_);refine aD rfl (fun hb=> ?_) (fun hb=> ?_)
   ·
    skip
    refine eo .gB [0,1,2,3,4,5,6,7,8,9,10,11] follows (by kernel_rfl) ?_;refine aa 4 rfl (cj (vs:=[.int .i64 nl,.int .i64 dl,.pointer bl]) ag rfl rfl rfl rfl (oR.le eF) rfl (by decide) cZ (by omega) (by omega) fun _=>(aa 2 rfl (aY rfl rfl (Fn.lr K5 (Gq (N:=N) yD afY sf PC (by omega))) (fun _ _ h=>by first | exact h.le | exact h.1) ?_)));rintro v4 H4 ⟨gg,cM,n4,d4,b4,rfl,ct⟩;have af0:=gg.ne K5;have wD:=vx f (a k);refine aY rfl rfl (Fn.lr af0 (DQ (N:=2*N) (afZ.le gg.le) ct (by omega) (by omega) (by omega))) (fun _ _ h=>by first | exact h.le | exact h.1) ?_;rintro v5 H5 ⟨mu,eI,n5,d5,b5,rfl,dZ⟩;obtain⟨DY,sz6,nJ,Gt⟩:=(de.le (dz.le.trans gg.le) ((gg.same gl eG).trans (dz.same gl eG))).le mu.le (mu.same gl eG);have PD:=Gt.len;rw[bB]at PD;obtain⟨ti,aj,ak⟩:=cH;refine cV (.inr rfl) ag rfl rfl rfl (by omega) (by omega) (nJ) rfl (by show 0+n*3≤DY.length;omega) aj ak (fun _=>rfl) rfl rfl rfl fun _=> ?_;refine au (ah [1,7,19,20,21] rfl ?_);refine aA rfl (aF rfl rfl ⟨by omega,by omega⟩ (aa 1 rfl (au ?_)));exact⟨k+1,by omega,ar,(((fy.trans (dz.iF gl)).trans (gg.iF gl)).trans (mu.iF gl)).ins eG _,by rw[cE _ eG];exact lq.set Gt ga dZ (by rw[bn,Nat.zero_add];rfl),by omega⟩
   have hz:a k=0:=vD (by simpa using hb);refine az (ah [1,7,19,20,21] rfl ?_);refine aA rfl (aF rfl rfl ⟨by omega,by omega⟩ (aa 1 rfl (au ?_)));exact⟨k+1,by omega,ar,fy.trans (dz.iF gl),by rw[←WB (show (fun j=>b j-f*a j) k=b k by show b k-f*a k=b k;rw[hz];grind)];exact de.le dz.le (dz.same gl eG),by omega⟩
  have hb:n≤k:=by simpa using hb
  obtain rfl:k=n:=by omega
  refine aX ?_;refine⟨.inl rfl,_,.nil,?_⟩;exact⟨(gC.iF gl).trans fy,by rw[←WD (g:=b)];exact de⟩
end Go.aq
namespace Go.aq
open Go.Proofs Num Lp
def j8(_:Heap)(vs:List Value)(z:Int):Prop:=vs = [.int .i64 z]
def vE(_:Heap)(vs:List Value)(k:Nat):Prop:=vs = [.int .i64 (k:Int)]
theorem kS:Up j8:=fun _ _ _ _ _ h=>h
theorem my:Up vE:=fun _ _ _ _ _ h=>h
structure TL where
 w:Nat
 u:Nat
 plus:List Nat
 minus:List Int
 j9:List Nat
 jP:List Rat
structure TG where
 g:Nat
 cr:Nat
 Ar:Option Addr
 pv:Value
 mv:Value
 uv:Value
 sv:Value
 cv:Value
 bv:Value
 rg:List (Nat×Nat)
 cb:List Nat
 bb:List Nat
def TG.gs(G:TG):List Nat:=G.g::(G.cb++(G.bb++G.rg.map (·.1)))
def TG.cells(G:TG)(w u m:Nat):List Value:=[.int .i64 (w:Int),.int .i64 (u:Int),G.pv,G.mv,G.uv,G.sv,.slice G.Ar m G.cr,G.cv,G.bv]
def eN(B:Nat→Nat)(m:Nat):List Value:=(List.range m).map fun i=> .int .i64 (B i:Int)
theorem gI{B:Nat→Nat}{m i:Nat}(h:i<m):(eN B m)[i]? = some (.int .i64 (B i:Int)):=by simp[eN,h]
theorem BG(B:Nat→Nat)(m:Nat):(eN B m).length=m:=by simp[eN]
theorem WI{B C:Nat→Nat}{m:Nat}(h:∀i,i<m→B i=C i):eN B m=eN C m:=by
 unfold eN
 apply List.map_congr_left
 intro i hi
 rw[h i (List.mem_range.1 hi)]
structure dE(H:Heap)(G:TG)(L:TL)(T:av):Prop where
 n:T.n=L.w
 uw:L.u≤L.w
 st:H G.g=some ⟨G.cells L.w L.u T.m,9,127,true⟩
 nd:G.gs.Nodup
 iu:G.rg.length=T.m
 rows:∃xs,Rd (rem H G.gs) G.Ar xs∧∀(i:Nat)(p:Nat×Nat),G.rg[i]? = some p→xs[i]? = some (.slice (some ⟨p.1,0,none⟩) (L.w+1) p.2)
 row:∀(i:Nat)(p:Nat×Nat),G.rg[i]? = some p→lq (rem H G.gs) H p.1 (aK (T.A i) (L.w+1))
 basis:(T.m=0∧G.bb = []∧G.bv = .slice none 0 0)∨∃gb cb sz,G.bb = [gb]∧G.bv = .slice (some ⟨gb,0,none⟩) T.m cb∧H gb=some ⟨eN T.B T.m,sz,3,true⟩
 plus:aQ vE 1 (rem H G.gs) G.pv L.plus
 minus:aQ j8 1 (rem H G.gs) G.mv L.minus
 j9:aQ vE 1 (rem H G.gs) G.uv L.j9
 jP:aQ bS 3 (rem H G.gs) G.sv L.jP
 cb:∀q,q∈G.cb→H q≠none
def iO(H:Heap)(G:TG)(L:TL)(T:av):Prop:=∃gc cc,G.cb = [gc]∧G.cv = .slice (some ⟨gc,0,none⟩) (L.w+1) cc∧lq (rem H G.gs) H gc (aK T.c (L.w+1))
section
variable {H H':Heap} {G:TG} {L:TL} {T:av}
theorem TG.sj(G:TG):G.g∈G.gs:=List.mem_cons_self ..
theorem TG.zm{G:TG}{q:Nat}(h:q∈G.cb):q∈G.gs:=List.mem_cons_of_mem _ (List.mem_append_left _ h)
theorem TG.mz{G:TG}{q:Nat}(h:q∈G.bb):q∈G.gs:=List.mem_cons_of_mem _ (List.mem_append_right _ (List.mem_append_left _ h))
theorem TG.gJ{G:TG}{i:Nat}{p:Nat×Nat}(h:G.rg[i]? = some p):p.1∈G.gs:=List.mem_cons_of_mem _ (List.mem_append_right _ (List.mem_append_right _ (List.mem_map.2 ⟨p,List.mem_of_getElem? h,rfl⟩)))
theorem dE.ne(h:dE H G L T):∀q,q∈G.gs→H q≠none:=fun q hq=>by
 rcases List.mem_cons.1 hq with rfl | hq
 ·rw[h.st];simp
 ·rcases List.mem_append.1 hq with hq | hq
  ·exact h.cb q hq
  ·rcases List.mem_append.1 hq with hq | hq
   ·rcases h.basis with ⟨_,h1,_⟩ | ⟨gb,cb,sz,h1,_,h2⟩
    ·rw[h1]at hq;cases hq
    ·rw[h1,List.mem_singleton]at hq
     rw[hq,h2];simp
   ·obtain⟨p,hp,rfl⟩:=List.mem_map.1 hq
    obtain⟨i,hi⟩:=List.getElem?_of_mem hp
    obtain⟨xs,sz,h1,_⟩:=h.row i p hi
    rw[h1];simp
theorem dE.cell(h:dE H G L T){k:Nat}{v:Value}(hk:(G.cells L.w L.u T.m)[k]? = some v):aq.cell H ((⟨G.g,0,none⟩:Addr).add k)=some v:=by
 simp[aq.cell,im,h.st,hk]
theorem dE.iP(h:dE H G L T):aq.cell H (⟨G.g,0,none⟩:Addr)=some (.int .i64 (L.w:Int)):=by
 have:=h.cell (k:=0) (v:= .int .i64 (L.w:Int)) rfl
 rwa [im]at this
theorem TG.BH{G:TG}(h:G.gs.Nodup){q:Nat}(hq:q∈G.cb∨q∈G.bb∨∃(i:Nat)(p:Nat×Nat),G.rg[i]? = some p∧p.1=q):G.g≠q:=by
 have h1:=(List.nodup_cons.1 h).1
 intro e
 subst e
 apply h1
 rcases hq with hq | hq | ⟨i,p,hp,he⟩
 ·exact List.mem_append_left _ hq
 ·exact List.mem_append_right _ (List.mem_append_left _ hq)
 ·exact List.mem_append_right _ (List.mem_append_right _ (List.mem_map.2 ⟨p,List.mem_of_getElem? hp,he⟩))
theorem TG.BI{G:TG}(h:G.gs.Nodup){q r:Nat}(hq:q∈G.cb)(hr:r∈G.bb∨∃(i:Nat)(p:Nat×Nat),G.rg[i]? = some p∧p.1=r):q≠r:=by
 have h1:=(List.nodup_append.1 (List.nodup_cons.1 h).2).2.2 q hq
 refine h1 r ?_
 rcases hr with hr | ⟨i,p,hp,he⟩
 ·exact List.mem_append_left _ hr
 ·exact List.mem_append_right _ (List.mem_map.2 ⟨p,List.mem_of_getElem? hp,he⟩)
theorem TG.Gu{G:TG}(h:G.gs.Nodup){q:Nat}(hq:q∈G.bb){i:Nat}{p:Nat×Nat}(hp:G.rg[i]? = some p):q≠p.1:=
 (List.nodup_append.1 (List.nodup_append.1 (List.nodup_cons.1 h).2).2.1).2.2 q hq p.1 (List.mem_map.2 ⟨p,List.mem_of_getElem? hp,rfl⟩)
theorem TG.K6{G:TG}(h:G.gs.Nodup){i j:Nat}{p q:Nat×Nat}(hp:G.rg[i]? = some p)(hq:G.rg[j]? = some q)(bo:i≠j):p.1≠q.1:=by
 have h1:=(List.nodup_append.1 (List.nodup_append.1 (List.nodup_cons.1 h).2).2.1).2.1
 intro e
 have hi:(G.rg.map (·.1))[i]? = some p.1:=by rw[List.getElem?_map,hp];rfl
 have hj:(G.rg.map (·.1))[j]? = some p.1:=by rw[List.getElem?_map,hq,e];rfl
 obtain⟨hi1,rF⟩:=List.getElem?_eq_some_iff.1 hi
 obtain⟨qo,tB⟩:=List.getElem?_eq_some_iff.1 hj
 exact bo ((List.getElem_inj h1).1 (rF.trans tB.symm))
theorem dE.kept(h:dE H G L T)(k:Kept G.gs H H'):dE H' G L T where
 n:=h.n
 uw:=h.uw
 st:=by rw[k.same _ G.sj];exact h.st
 nd:=h.nd
 iu:=h.iu
 rows:=by obtain⟨xs,h1,h2⟩:=h.rows;exact⟨xs,h1.le k.le,h2⟩
 row:=fun i p hp=>(h.row i p hp).le k.le (k.same _ (TG.gJ hp))
 basis:=by
  rcases h.basis with h1 | ⟨gb,cb,sz,h1,h2,h3⟩
  ·exact .inl h1
  ·exact .inr ⟨gb,cb,sz,h1,h2,by rw[k.same _ (TG.mz (by rw[h1];exact List.mem_singleton.2 rfl))];exact h3⟩
 plus:=h.plus.le my k.le
 minus:=h.minus.le kS k.le
 j9:=h.j9.le my k.le
 jP:=h.jP.le jc k.le
 cb:=fun q hq=>by rw[k.same _ (TG.zm hq)];exact h.cb q hq
theorem iO.kept(h:iO H G L T)(k:Kept G.gs H H'):iO H' G L T:=by
 obtain⟨gc,cc,h1,h2,h3⟩:=h
 exact⟨gc,cc,h1,h2,h3.le k.le (k.same _ (TG.zm (by rw[h1];exact List.mem_singleton.2 rfl)))⟩
theorem dE.congr{T':av}(h:dE H G L T)(hm:T'.m=T.m)(hn:T'.n=T.n)(hA:∀i,i<T.m→∀j,j≤T.n→T'.A i j=T.A i j)(hB:∀i,i<T.m→T'.B i=T.B i):dE H G L T' where
 n:=hn.trans h.n
 uw:=h.uw
 st:=by rw[hm];exact h.st
 nd:=h.nd
 iu:=h.iu.trans hm.symm
 rows:=h.rows
 row:=fun i p hp=>by
  have hi:i<T.m:=by rw[←h.iu];exact(List.getElem?_eq_some_iff.1 hp).1
  rw[ln (g:=T.A i) (fun j hj=>hA i hi j (by rw[h.n];omega))];exact h.row i p hp
 basis:=by
  rw[hm,WI hB];exact h.basis
 plus:=h.plus
 minus:=h.minus
 j9:=h.j9
 jP:=h.jP
 cb:=h.cb
theorem iO.congr{T':av}(h:iO H G L T)(hc:∀j,j≤L.w→T'.c j=T.c j):iO H G L T':=by
 obtain⟨gc,cc,h1,h2,h3⟩:=h
 exact⟨gc,cc,h1,h2,by rw[ln (g:=T.c) (fun j hj=>hc j (by omega))];exact h3⟩
def _root_.Lp.av.setRow(T:av)(i:Nat)(f:Nat→Rat):av:={T with A:=fun k=>if k=i then f else T.A k}
theorem dE.setRow(h:dE H G L T){i:Nat}{p:Nat×Nat}(hp:G.rg[i]? = some p)(k:fR G.gs p.1 H H'){f:Nat→Rat}(hb:lq (rem H' G.gs) H' p.1 (aK f (L.w+1))):dE H' G L (T.setRow i f) where
 n:=h.n
 uw:=h.uw
 st:=by rw[k.same _ G.sj (TG.BH h.nd (.inr (.inr ⟨i,p,hp,rfl⟩)))];exact h.st
 nd:=h.nd
 iu:=h.iu
 rows:=by obtain⟨xs,h1,h2⟩:=h.rows;exact⟨xs,h1.le k.le,h2⟩
 row:=fun j q hq=>by
  by_cases e:j=i
  ·subst e
   rw[hp]at hq
   cases hq
   simp only[av.setRow,if_true]
   exact hb
  ·simp only[av.setRow,if_neg e]
   exact(h.row j q hq).le k.le (k.same _ (TG.gJ hq) (TG.K6 h.nd hq hp e))
 basis:=by
  rcases h.basis with h1 | ⟨gb,cb,sz,h1,h2,h3⟩
  ·exact .inl h1
  ·have hm:gb∈G.bb:=by rw[h1];exact List.mem_singleton.2 rfl
   exact .inr ⟨gb,cb,sz,h1,h2,by rw[k.same _ (TG.mz hm) (TG.Gu h.nd hm hp)];exact h3⟩
 plus:=h.plus.le my k.le
 minus:=h.minus.le kS k.le
 j9:=h.j9.le my k.le
 jP:=h.jP.le jc k.le
 cb:=fun q hq=>by rw[k.same _ (TG.zm hq) (TG.BI h.nd hq (.inr ⟨i,p,hp,rfl⟩))];exact h.cb q hq
theorem iO.setRow(h:iO H G L T)(nd:G.gs.Nodup){i:Nat}{p:Nat×Nat}(hp:G.rg[i]? = some p)(k:fR G.gs p.1 H H')(f:Nat→Rat):iO H' G L (T.setRow i f):=by
 obtain⟨gc,cc,h1,h2,h3⟩:=h
 have hm:gc∈G.cb:=by rw[h1];exact List.mem_singleton.2 rfl
 exact⟨gc,cc,h1,h2,h3.le k.le (k.same _ (TG.zm hm) (TG.BI nd hm (.inr ⟨i,p,hp,rfl⟩)))⟩
theorem dE.af1(h:dE H G L T){gc:Nat}(hc:G.cb = [gc])(k:fR G.gs gc H H'){f:Nat→Rat}(hb:lq (rem H' G.gs) H' gc (aK f (L.w+1))):dE H' G L {T with c:=f}:=by
 have hm:gc∈G.cb:=by rw[hc];exact List.mem_singleton.2 rfl
 exact
 {n:=h.n
  uw:=h.uw
  st:=by rw[k.same _ G.sj (TG.BH h.nd (.inl hm))];exact h.st
  nd:=h.nd
  iu:=h.iu
  rows:=by obtain⟨xs,h1,h2⟩:=h.rows;exact⟨xs,h1.le k.le,h2⟩
  row:=fun j q hq=>(h.row j q hq).le k.le (k.same _ (TG.gJ hq) (fun e=>TG.BI h.nd hm (.inr ⟨j,q,hq,rfl⟩) e.symm))
  basis:=by
   rcases h.basis with h1 | ⟨gb,cb,sz,h1,h2,h3⟩
   ·exact .inl h1
   ·have bK:gb∈G.bb:=by rw[h1];exact List.mem_singleton.2 rfl
    exact .inr ⟨gb,cb,sz,h1,h2,by rw[k.same _ (TG.mz bK) (fun e=>TG.BI h.nd hm (.inl bK) e.symm)];exact h3⟩
  plus:=h.plus.le my k.le
  minus:=h.minus.le kS k.le
  j9:=h.j9.le my k.le
  jP:=h.jP.le jc k.le
  cb:=fun q hq=>by
   rw[hc,List.mem_singleton]at hq
   obtain⟨xs,sz,h1,_⟩:=hb
   rw[hq,h1];simp}
theorem dE.DZ(h:dE H G L T){gb cb sz:Nat}(hb:G.bb = [gb])(hv:G.bv = .slice (some ⟨gb,0,none⟩) T.m cb){r s:Nat}{e:Ent}(he:e=⟨eN (fun i=>if i=r then s else T.B i) T.m,sz,3,true⟩):dE (ins H gb e) G L {T with B:=fun i=>if i=r then s else T.B i}:=by
 have hm:gb∈G.bb:=by rw[hb];exact List.mem_singleton.2 rfl
 have k:fR G.gs gb H (ins H gb e):=((Kept.refl _ _).iF gb).ins (TG.mz hm) e
 exact
 {n:=h.n
  uw:=h.uw
  st:=by rw[k.same _ G.sj (TG.BH h.nd (.inr (.inl hm)))];exact h.st
  nd:=h.nd
  iu:=h.iu
  rows:=by obtain⟨xs,h1,h2⟩:=h.rows;exact⟨xs,h1.le k.le,h2⟩
  row:=fun j q hq=>(h.row j q hq).le k.le (k.same _ (TG.gJ hq) (fun e=>TG.Gu h.nd hm hq e.symm))
  basis:= .inr ⟨gb,cb,sz,hb,hv,by rw[bn,he]⟩
  plus:=h.plus.le my k.le
  minus:=h.minus.le kS k.le
  j9:=h.j9.le my k.le
  jP:=h.jP.le jc k.le
  cb:=fun q hq=>by rw[k.same _ (TG.zm hq) (TG.BI h.nd hq (.inl hm))];exact h.cb q hq}
theorem iO.DZ(h:iO H G L T)(nd:G.gs.Nodup){gb:Nat}(hb:G.bb = [gb])(e:Ent)(B:Nat→Nat):iO (ins H gb e) G L {T with B:=B}:=by
 have hm:gb∈G.bb:=by rw[hb];exact List.mem_singleton.2 rfl
 have k:fR G.gs gb H (ins H gb e):=((Kept.refl _ _).iF gb).ins (TG.mz hm) e
 obtain⟨gc,cc,h1,h2,h3⟩:=h
 have WJ:gc∈G.cb:=by rw[h1];exact List.mem_singleton.2 rfl
 exact⟨gc,cc,h1,h2,h3.le k.le (k.same _ (TG.zm WJ) (TG.BI nd WJ (.inl hm)))⟩
structure Sz(N:Nat)(T:av):Prop where
 A:∀i,i<T.m→∀j,j≤T.n→aN (T.A i j)≤N
 c:∀j,j≤T.n→aN (T.c j)≤N
end
end Go.aq
namespace Go.aq
open Go.Proofs Num Lp
section
variable {H:Heap} {G:TG} {L:TL} {T:av} {N:Nat} {fs:List Value} {f:Rat}
theorem af2(h:dE H G L T){i r:Nat}{p q:Nat×Nat}(hp:G.rg[i]? = some p)(hq:G.rg[r]? = some q)(bo:i≠r)(hf:bS (rem H G.gs) fs f)(hN:(N:Int)≤549755813888)(hw:(L.w:Int)≤1000000)(sf:aN f≤N)(si:∀j,j≤L.w→aN (T.A i j)≤N)(sr:∀j,j≤L.w→aN (T.A r j)≤N):
  Fn Tryz.prog 124 #[.pointer (some ⟨G.g,0,none⟩),.slice (some ⟨p.1,0,none⟩) (L.w+1) p.2,.int .i64 (r:Int),.agg fs.toArray] H (fun _ H'=>dE H' G L (T.setRow i (fun j=>T.A i j-f*T.A r j))∧fR G.gs p.1 H H'):=by
 obtain⟨sh,mb,mg⟩:=h.rows
 refine(WG (N:=N) h.ne G.sj (TG.gJ hp) (TG.gJ hq) (TG.K6 h.nd hp hq bo) (TG.BH h.nd (.inr (.inr ⟨i,p,hp,rfl⟩))) h.st rfl mb ?_ (mg r q hq) (h.row r q hq) (h.row i p hp) hf hN (by omega) sf (fun j hj=>sr j (by omega)) (fun j hj=>si j (by omega))).mono fun v H' hh=>⟨h.setRow hp hh.1 hh.2,hh.1⟩
 rw[←h.iu];exact(List.getElem?_eq_some_iff.1 hq).1
theorem WK(h:dE H G L T)(hc:iO H G L T){r:Nat}{q:Nat×Nat}(hq:G.rg[r]? = some q)(hf:bS (rem H G.gs) fs f)(hN:(N:Int)≤549755813888)(hw:(L.w:Int)≤1000000)(sf:aN f≤N)(si:∀j,j≤L.w→aN (T.c j)≤N)(sr:∀j,j≤L.w→aN (T.A r j)≤N):
  Fn Tryz.prog 124 #[.pointer (some ⟨G.g,0,none⟩),G.cv,.int .i64 (r:Int),.agg fs.toArray] H (fun _ H'=>dE H' G L {T with c:=fun j=>T.c j-f*T.A r j}∧iO H' G L {T with c:=fun j=>T.c j-f*T.A r j}∧Heap.le (rem H G.gs) (rem H' G.gs)):=by
 obtain⟨sh,mb,mg⟩:=h.rows
 obtain⟨gc,cc,h1,h2,h3⟩:=hc
 have hm:gc∈G.cb:=by rw[h1];exact List.mem_singleton.2 rfl
 rw[h2]
 refine(WG (N:=N) h.ne G.sj (TG.zm hm) (TG.gJ hq) (TG.BI h.nd hm (.inr ⟨r,q,hq,rfl⟩)) (TG.BH h.nd (.inl hm)) h.st rfl mb ?_ (mg r q hq) (h.row r q hq) h3 hf hN (by omega) sf (fun j hj=>sr j (by omega)) (fun j hj=>si j (by omega))).mono fun v H' hh=>⟨h.af1 h1 hh.1 hh.2,⟨gc,cc,h1,h2,hh.2⟩,hh.1.le⟩
 rw[←h.iu];exact(List.getElem?_eq_some_iff.1 hq).1
end
theorem PE{B:Nat→Nat}{m r s:Nat}:(eN B m).set r (.int .i64 (s:Int))=eN (fun i=>if i=r then s else B i) m:=by
 apply List.ext_getElem?
 intro i
 by_cases hi:i<m
 ·by_cases e:i=r
  ·subst e
   rw[List.getElem?_set_self (by rw[BG];exact hi),gI hi,if_pos rfl]
  ·rw[List.getElem?_set_ne (fun e'=>e e'.symm),gI hi,gI hi,if_neg e]
 ·rw[List.getElem?_eq_none (by rw[List.length_set,BG];omega),List.getElem?_eq_none (by rw[BG];omega)]
def lu(T:av)(r s k:Nat):av:={T with A:=fun i=>if i=r then(fun j=>T.A r j/T.A r s)else if i<k then(fun j=>T.A i j-T.A i s*(T.A r j/T.A r s))else T.A i}
theorem af3{T:av}{r s k:Nat}(hk:k≠r)(i j:Nat):(lu T r s (k+1)).A i j=((lu T r s k).setRow k (fun j=>(lu T r s k).A k j-T.A k s*(lu T r s k).A r j)).A i j:=by
 unfold av.setRow lu
 simp only
 by_cases e1:i=k
 ·subst e1
  rw[if_neg hk,if_pos (by omega),if_pos rfl,if_neg hk,if_neg (by omega),if_pos trivial]
 ·rw[if_neg e1]
  by_cases e2:i=r
  ·rw[if_pos e2,if_pos e2]
  ·rw[if_neg e2,if_neg e2]
   by_cases e3:i<k
   ·rw[if_pos (by omega),if_pos e3]
   ·rw[if_neg (by omega),if_neg e3]
theorem af4{T:av}{r s k:Nat}(hk:k=r)(i j:Nat):(lu T r s (k+1)).A i j=(lu T r s k).A i j:=by
 unfold lu
 simp only
 by_cases e2:i=r
 ·rw[if_pos e2,if_pos e2]
 ·rw[if_neg e2,if_neg e2]
  by_cases e3:i<k
  ·rw[if_pos (by omega),if_pos e3]
  ·rw[if_neg (by omega),if_neg e3]
theorem dE.get{H:Heap}{G:TG}{L:TL}{T:av}(h:dE H G L T){i:Nat}(hi:i<T.m):∃p,G.rg[i]? = some p:=⟨_,List.getElem?_eq_getElem (by rw[h.iu];exact hi)⟩
theorem WL{H:Heap}{G:TG}{L:TL}{T:av}{N r s:Nat}(h:dE H G L T)(hc:iO H G L T)(hr:r<T.m)(hs:s<L.w)(hp:T.A r s≠0)(hz:Sz N T)(PF:Sz N (T.pivot r s))(hN:(N:Int)≤549755813888)(hw:(L.w:Int)≤1000000)(hm:(T.m:Int)≤1000000):
 Fn Tryz.prog 127 #[.pointer (some ⟨G.g,0,none⟩),.int .i64 (r:Int),.int .i64 (s:Int)] H (fun _ H'=>dE H' G L (T.pivot r s)∧iO H' G L (T.pivot r s)∧Heap.le (rem H G.gs) (rem H' G.gs)):=by
 obtain⟨pr,cW⟩:=h.get hr
 obtain⟨sh,mb,mg⟩:=h.rows
 have mq:s≤T.n:=by rw[h.n];omega
 have WM:∀j,j≤L.w→aN (T.A r j/T.A r s)≤N:=fun j hj=>by
  have:=PF.A r hr j (by show j≤T.n;rw[h.n];exact hj)
  simpa [av.pivot]using this
 have K7:∀i,i<T.m→∀j,j≤L.w→aN (T.A i j)≤N:=fun i hi j hj=>hz.A i hi j (by rw[h.n];exact hj)
 obtain⟨xp,np,dp,bp,jr,hnp,oS⟩:=(h.row r pr cW).rd (dM (show s<L.w+1 by omega));refine aZ (args:=[_,_,_]) Tryz.func127 rfl rfl Tryz.ntmps127 rfl rfl fun w0=> ?_;refine ah [0,1,2] rfl ?_;refine ae (aa 2 rfl (aW ag rfl rfl rfl (aR ag rfl rfl rfl (h.cell rfl) (aa 1 rfl (aS ag rfl rfl rfl rfl rfl (mb.le (bD _ _)) (by rw[Int.toNat_natCast];exact mg r pr cW) (by omega) (by omega) fun _=> ?_)))));refine aa 1 rfl (ab [0,1,2,6] ?_);refine ae (aa 2 rfl (cj (vs:=[.int .i64 np,.int .i64 dp,.pointer bp]) ag rfl rfl rfl rfl jr rfl (by decide) (by rw[Int.toNat_natCast];exact oS) (by omega) (by omega) fun _=> ?_));refine bh ff rfl ?_;obtain⟨ti,aj,ak⟩:=cH;refine aH (.inl ⟨rfl,rfl⟩) rfl rfl rfl aj ak rfl rfl rfl (ab [0,1,2,6,7] ?_);refine ao (ae (aa 3 rfl (ab [0,1,2,6,7,23,24,25] ?_)));refine aE (fY (fun(k:Nat)=>L.w+1-k) (fun(k:Nat)=>put (put (put (put (put (put (put (put (emp) 0 (.val (.pointer (some ⟨G.g,0,none⟩)))) 1 (.val (.int .i64 (r:Int)))) 2 (.val (.int .i64 (s:Int)))) 6 (.val (.slice (some ⟨pr.1,0,none⟩) (L.w+1) pr.2))) 7 (.box [.int .i64 np,.int .i64 dp,.pointer bp])) 23 (.val (.slice (some ⟨pr.1,0,none⟩) (L.w+1) pr.2))) 24 (.val (.int .i64 ((L.w+1:Nat):Int)))) 25 (.val (.int .i64 (k:Int)))) (fun(k:Nat) H'=>fR G.gs pr.1 H H'∧lq (rem H' G.gs) H' pr.1 (aK (lQ (fun j=>T.A r j/T.A r s) (T.A r) k) (L.w+1))∧k≤L.w+1) 0 (⟨(Kept.refl _ _).iF _,by rw[WC];exact h.row r pr cW,Nat.zero_le _⟩) ar ?_)
 rintro k H2 ⟨fy,de,fN⟩;have af5:=hnp.le fy.le
 have xt:∀q,q∈G.gs→H2 q≠none:=fun q hq=>by
  by_cases e:q=pr.1
  ·
   obtain⟨xs,sz,h,_⟩:=de;rw[e,h];simp
  ·rw[fy.same q hq e];exact h.ne q hq
 refine ae (aa 1 rfl (ab [0,1,2,6,7,23,24,25,26] ?_));refine ao (aD rfl (fun hb=> ?_) (fun hb=> ?_))
 ·
  have ga:k<L.w+1:=by simp at hb;omega
  obtain⟨xl,nl,dl,bl,oR,zl,cZ⟩:=de.rd (dM ga);rw[show lQ (fun j=>T.A r j/T.A r s) (T.A r) k k=T.A r k by simp[lQ]]at zl;have PC:=K7 r hr k (by omega);have WH:=K7 r hr s (by omega);refine az (ah [0,1,2,6,7,23,24,25] rfl ?_);refine ao (aE (ae (aa 1 rfl (cj (vs:=[.int .i64 nl,.int .i64 dl,.pointer bl]) ag rfl rfl rfl rfl oR rfl (by decide) cZ (by omega) (by omega) fun _=>(bh ff rfl (vr 1 ?_))))));obtain⟨ti,aj,ak⟩:=cH;refine aH (.inl ⟨rfl,rfl⟩) rfl rfl rfl aj ak rfl rfl rfl (ab [0,1,2,6,7,8,9,23,24,25] ?_);refine ae (aa 1 rfl (aC rfl rfl (Fn.lR xt (tO zl (by omega))) ?_));rintro v3 H3 ⟨dz,eF,rfl⟩;have K5:=dz.ne xt;refine aa 1 rfl (ab [0,1,2,6,7,8,9,23,24,25,32] ?_);refine aD rfl (fun hb=> ?_) (fun hb=> ?_)
  ·
   skip
   refine aA rfl (aa 4 rfl (aC rfl rfl (Fn.lr K5 (Wt (N:=N) (zl.le dz.le) (af5.le dz.le) PC WH (by omega) hp)) ?_));rintro v4 H4 ⟨gg,cM,n4,d4,b4,rfl,ct⟩;obtain⟨DY,sz6,nJ,Gt⟩:=de.le (dz.le.trans gg.le) ((gg.same _ (TG.gJ cW)).trans (dz.same _ (TG.gJ cW)));have PD:=Gt.len;rw[bB]at PD;obtain⟨ti,aj,ak⟩:=cH;refine cV (.inl rfl) ag rfl rfl rfl (by omega) (by omega) (nJ) rfl (by show 0+(L.w+1)*3≤DY.length;omega) aj ak (fun _=>rfl) rfl rfl rfl fun _=> ?_;refine au (ah [0,1,2,6,7,23,24,25] rfl ?_);refine aA rfl (aF rfl rfl ⟨by omega,by omega⟩ (aa 1 rfl (au ?_)));exact⟨k+1,by omega,ar,((fy.trans (dz.iF _)).trans (gg.iF _)).ins (TG.gJ cW) _,by rw[cE _ (TG.gJ cW)];exact lq.set Gt ga ct (by rw[bn,Nat.zero_add];rfl),by omega⟩
  ·
   have jd:T.A r k=0:=vD (by simpa using hb);refine az (ah [0,1,2,6,7,23,24,25] rfl ?_);refine aA rfl (aF rfl rfl ⟨by omega,by omega⟩ (aa 1 rfl (au ?_)));exact⟨k+1,by omega,ar,fy.trans (dz.iF _),by rw[←WB (show (fun j=>T.A r j/T.A r s) k=T.A r k by show T.A r k/T.A r s=T.A r k;rw[jd,Rat.div_def,Rat.zero_mul])];exact de.le dz.le (dz.same _ (TG.gJ cW)),by omega⟩
 ·
  have hb:L.w+1≤k:=by simp at hb;omega
  obtain rfl:k=L.w+1:=by omega
  rw[WD]at de;have fU:=fy.le;have rR:=(hc.setRow h.nd cW fy (fun j=>T.A r j/T.A r s)).congr (T':=lu T r s 0) (fun j _=>rfl);have h3:=(h.setRow cW fy de).congr (T':=lu T r s 0) rfl rfl (fun i hi j hj=>by simp only[lu,av.setRow];split <;> rfl) (fun i hi=>rfl);refine aX (ah [0,1,2] rfl ?_);refine ao (ae (aa 2 rfl (aW ag rfl rfl rfl (aR ag rfl rfl rfl (h3.cell rfl) (aa 2 rfl (ab [0,1,2,43,44,45] ?_))))));refine aE (fY (fun(k:Nat)=>T.m-k) (fun(k:Nat)=>put (put (put (put (put (put (emp) 0 (.val (.pointer (some ⟨G.g,0,none⟩)))) 1 (.val (.int .i64 (r:Int)))) 2 (.val (.int .i64 (s:Int)))) 43 (.val (.slice G.Ar T.m G.cr))) 44 (.val (.int .i64 (T.m:Int)))) 45 (.val (.int .i64 (k:Int)))) (fun(k:Nat) H'=>dE H' G L (lu T r s k)∧iO H' G L (lu T r s k)∧Heap.le (rem H G.gs) (rem H' G.gs)∧k≤T.m) 0 (⟨h3,rR,fU,Nat.zero_le _⟩) ar ?_);rintro k H4 ⟨h4,oB,ku,gg⟩;refine ae (aa 1 rfl (ab [0,1,2,43,44,45,46] ?_));refine ao (aD rfl (fun hb=> ?_) (fun hb=> ?_))
  ·
   have iQ:k<T.m:=by simpa using hb
   obtain⟨pk,qB⟩:=h.get iQ;obtain⟨xs4,BJ,lL⟩:=h4.rows;refine az (ah [0,1,2,43,44,45] rfl ?_);refine ao (aE (ae (aa 1 rfl (aS ag rfl rfl rfl rfl rfl (BJ.le (bD _ _)) (by rw[Int.toNat_natCast];exact lL k pk qB) (by omega) (by omega) fun _=> ?_))));refine aa 2 rfl (ab [0,1,2,10,11,43,44,45] ?_);refine ae (aa 3 rfl (ab [0,1,2,11,43,44,45,52] ?_));refine aD rfl (fun hb=> ?_) (fun hb=> ?_)
   ·
    have tC:k≠r:=by simp at hb;omega
    obtain⟨xk,nk,dk,bk,K8,Gv,vF⟩:=(h4.row k pk qB).rd (dM (show s<L.w+1 by omega));rw[show (lu T r s k).A k s=T.A k s by simp[lu,tC]]at Gv;refine aA rfl (aa 5 rfl (cj (vs:=[.int .i64 nk,.int .i64 dk,.pointer bk]) ag rfl rfl rfl rfl K8 rfl (by decide) (by rw[Int.toNat_natCast];exact vF) (by omega) (by omega) fun _=> ?_));refine aC rfl rfl (af2 (N:=N) h4 qB cW tC Gv hN hw (K7 k iQ s (by omega)) (fun j hj=>by simpa [lu,tC]using K7 k iQ j hj) (fun j hj=>by simpa [lu]using WM j hj)) ?_;rintro v5 H5 ⟨h5,xx⟩;refine au (ah [0,1,2,43,44,45] rfl ?_);refine aA rfl (aF rfl rfl ⟨by omega,by omega⟩ (aa 1 rfl (au ?_)));exact⟨k+1,by omega,ar,h5.congr rfl rfl (fun i hi j hj=>af3 tC i j) (fun i hi=>rfl),(oB.setRow h4.nd qB xx (fun _=>0)).congr (fun j _=>rfl),ku.trans xx.le,by omega⟩
   have tC:k=r:=by simp at hb;omega
   refine az (ah [0,1,2,43,44,45] rfl ?_);refine aA rfl (aF rfl rfl ⟨by omega,by omega⟩ (aa 1 rfl (au ?_)));exact⟨k+1,by omega,ar,h4.congr rfl rfl (fun i hi j hj=>af4 tC i j) (fun i hi=>rfl),oB.congr (fun j _=>rfl),ku,by omega⟩
  have hb:T.m≤k:=by simpa using hb
  obtain rfl:k=T.m:=by omega
  obtain⟨gc,cc,D3,bm,BK⟩:=id oB;obtain⟨xc,nc,dc,bc,nK,yI,tU⟩:=BK.rd (dM (show s<L.w+1 by omega))
  have kT:cell H4 ((⟨G.g,0,none⟩:Addr).add 7)=some (.slice (some ⟨gc,0,none⟩) (L.w+1) cc):=by rw[←bm];exact h4.cell rfl
  refine aX (ah [0,1,2] rfl ?_);refine bM .uT [0,1,2,3,4,5,6,7,8,9,10,11,12,13] follows (by kernel_rfl) ?_;refine aa 3 rfl (aW ag rfl rfl rfl (aR ag rfl rfl rfl (kT) (aa 3 rfl (aW ag rfl rfl rfl (aR ag rfl rfl rfl (kT) (aa 1 rfl (cj (vs:=[.int .i64 nc,.int .i64 dc,.pointer bc]) ag rfl rfl rfl rfl nK rfl (by decide) (by rw[Int.toNat_natCast];exact tU) (by omega) (by omega) fun _=> ?_)))))));refine VH rfl rfl (by rw[←bm];exact WK (N:=N) h4 oB cW yI hN hw (hz.c s mq) (fun j hj=>hz.c j (by rw[h.n];exact hj)) (fun j hj=>by simpa [lu]using WM j hj)) ?_;rintro v6 H6 ⟨h6,qC,sk⟩
  obtain⟨gb,cb,sz,ll,du,aV⟩:∃gb cb sz,G.bb = [gb]∧G.bv = .slice (some ⟨gb,0,none⟩) T.m cb∧H6 gb=some ⟨eN T.B T.m,sz,3,true⟩:=by
   rcases h6.basis with h7 | h7
   ·
    have h8:T.m=0:=h7.1
    omega
   ·exact h7
  refine ab [0,1,2] ?_;refine aA rfl (aa 2 rfl (aW ag rfl rfl rfl (aR ag rfl rfl rfl (show cell H6 _=some (.slice (some ⟨gb,0,none⟩) T.m cb)from by rw[←du];exact h6.cell rfl) ?_)));refine vr 2 ?_;obtain⟨ti,aj,ak⟩:=u6;refine cV (.inl rfl) ag rfl rfl rfl (by omega) (by omega) (aV) rfl (by show 0+T.m*1≤(eN T.B T.m).length;rw[BG];omega) aj ak (fun _=>rfl) rfl rfl rfl fun _=> ?_;refine au ?_;refine⟨.inl rfl,_,.nil,?_⟩
  have he:({(⟨eN T.B T.m,sz,3,true⟩:Ent)with xs:=aJ (eN T.B T.m) (0+((r:Int)).toNat*1) [.int .i64 (s:Int)]}:Ent)=⟨eN (fun i=>if i=r then s else T.B i) T.m,sz,3,true⟩:=by
   rw[Int.toNat_natCast,Nat.mul_one,Nat.zero_add,←PE];rfl
  refine⟨(h6.DZ (r:=r) (s:=s) (sz:=sz) ll du he).congr (T':=T.pivot r s) rfl rfl (fun i hi j hj=> ?_) (fun i hi=>rfl),(qC.DZ h6.nd ll _ (fun _=>0)).congr (T':=T.pivot r s) (fun j hj=> ?_),?_⟩
  ·
   have eX:i<T.m:=hi
   simp only[av.pivot,lu]
   by_cases e:i=r
   ·simp[e]
   ·simp[e,eX]
  ·simp[av.pivot,lu]
  have K9:gb∈G.gs:=TG.mz (by rw[ll];exact List.mem_singleton.2 rfl);rw[cE _ K9];exact ku.trans sk
end Go.aq
namespace Go.aq
open Go.Proofs Num Lp
theorem xz{q:Rat}:0≤fI q↔0≤q:=by
 unfold fI
 by_cases h:q<0
 ·rw[if_pos h];constructor <;> intro h' <;> first | omega | grind
 ·rw[if_neg h]
  by_cases e:q=0
  ·rw[if_pos e];constructor <;> intro h' <;> first | omega | grind
  ·rw[if_neg e];constructor <;> intro h' <;> first | omega | grind
theorem PG{q:Rat}:fI q≤0↔q≤0:=by
 unfold fI
 by_cases h:q<0
 ·rw[if_pos h];constructor <;> intro h' <;> first | omega | grind
 ·rw[if_neg h]
  by_cases e:q=0
  ·rw[if_pos e];constructor <;> intro h' <;> first | omega | grind
  ·rw[if_neg e];constructor <;> intro h' <;> first | omega | grind
theorem La{q:Rat}:fI q<0↔q<0:=by
 have:=xz (q:=q)
 constructor
 ·intro h;false_or_by_contra;have:=this.2 (by grind);omega
 ·intro h;false_or_by_contra;have:=this.1 (by omega);grind
theorem D4{q:Rat}:0<fI q↔0<q:=by
 have:=PG (q:=q)
 constructor
 ·intro h;false_or_by_contra;have:=this.2 (by grind);omega
 ·intro h;false_or_by_contra;have:=this.1 (by omega);grind
theorem xA{q:Rat}:fI q=0↔q=0:=by
 constructor
 ·exact vD
 ·intro h;rw[h];rfl
theorem WN(q:Rat):aN q⁻¹≤aN q:=by
 by_cases h:q=0
 ·rw[h,Rat.inv_zero];exact Nat.le_refl _
 ·have hn:0<q.num.natAbs:=by
   have:q.num≠0:=fun e=>h (Rat.num_eq_zero.1 e)
   omega
  have e:=Vq (g:=decide (q.num<0)) (m:=q.num.natAbs) (e:=q.den) hn
  rw[wN]at e
  have h1:=mc (Nat.div_le_self q.den (Nat.gcd q.den q.num.natAbs))
  have h2:=mc (Nat.div_le_self q.num.natAbs (Nat.gcd q.den q.num.natAbs))
  rw[e]
  unfold aN
  rw[Ds hn,Bj hn];omega
theorem D5(p q:Rat):aN (p/q)≤aN p+aN q:=by
 rw[Rat.div_def]
 have h1:=vx p q⁻¹
 have h2:=WN q
 omega
def Found(T:av)(s k:Nat)(row:Int)(K:Heap)(ls:List Value):Prop:=
 (row = -1∧∀i,i<k→T.A i s≤0)∨∃r:Nat,row=(r:Int)∧r<k∧0<T.A r s∧bS K ls (T.A r T.n/T.A r s)∧
  ∀i,i<k→0<T.A i s→T.A r T.n/T.A r s<T.A i T.n/T.A i s∨(T.A r T.n/T.A r s=T.A i T.n/T.A i s∧T.B r≤T.B i)
section
variable {T:av} {s k:Nat} {row:Int} {K K':Heap} {ls:List Value}
theorem Found.le(h:Found T s k row K ls)(hl:Heap.le K K'):Found T s k row K' ls:=by
 rcases h with h | ⟨r,h1,h2,h3,h4,h5⟩
 ·exact .inl h
 ·exact .inr ⟨r,h1,h2,h3,h4.le hl,h5⟩
theorem Found.skip(h:Found T s k row K ls)(hk:T.A k s≤0):Found T s (k+1) row K ls:=by
 rcases h with ⟨h1,h2⟩ | ⟨r,h1,h2,h3,h4,h5⟩
 ·exact .inl ⟨h1,fun i hi=>by
   by_cases e:i=k
   ·rw[e];exact hk
   ·exact h2 i (by omega)⟩
 ·exact .inr ⟨r,h1,by omega,h3,h4,fun i hi hp=>by
   by_cases e:i=k
   ·rw[e]at hp;grind
   ·exact h5 i (by omega) hp⟩
theorem Found.new{WO:List Value}(h:Found T s k row K ls)(hk:0<T.A k s)(hn:bS K WO (T.A k T.n/T.A k s))(hl:row = -1∨∀r:Nat,row=(r:Int)→T.A k T.n/T.A k s<T.A r T.n/T.A r s):Found T s (k+1) (k:Int) K WO:=by
 refine .inr ⟨k,rfl,by omega,hk,hn,fun i hi hp=> ?_⟩
 by_cases e:i=k
 ·rw[e];exact .inr ⟨rfl,Nat.le_refl _⟩
 ·rcases h with ⟨h1,h2⟩ | ⟨r,h1,h2,h3,h4,h5⟩
  ·have:=h2 i (by omega);grind
  ·have h6:T.A k T.n/T.A k s<T.A r T.n/T.A r s:=by
    rcases hl with hl | hl
    ·omega
    ·exact hl r h1
   rcases h5 i (by omega) hp with h7 | h7
   ·left;grind
   ·left;rw[←h7.1];exact h6
theorem Found.tie(h:Found T s k row K ls)(hk:0<T.A k s){r:Nat}(hr:row=(r:Int))(he:T.A k T.n/T.A k s=T.A r T.n/T.A r s)(hB:T.B k<T.B r):Found T s (k+1) (k:Int) K ls:=by
 rcases h with ⟨h1,h2⟩ | ⟨r',h1,h2,h3,h4,h5⟩
 ·omega
 ·obtain rfl:r'=r:=by omega
  refine .inr ⟨k,rfl,by omega,hk,by rw[he];exact h4,fun i hi hp=> ?_⟩
  by_cases e:i=k
  ·rw[e];exact .inr ⟨rfl,Nat.le_refl _⟩
  ·rcases h5 i (by omega) hp with h7 | h7
   ·left;rw[he];exact h7
   ·right;exact⟨by rw[he];exact h7.1,by omega⟩
theorem Found.stay(h:Found T s k row K ls)(hk:0<T.A k s){r:Nat}(hr:row=(r:Int))(he:T.A r T.n/T.A r s<T.A k T.n/T.A k s∨(T.A r T.n/T.A r s=T.A k T.n/T.A k s∧T.B r≤T.B k)):Found T s (k+1) row K ls:=by
 rcases h with ⟨h1,h2⟩ | ⟨r',h1,h2,h3,h4,h5⟩
 ·omega
 ·obtain rfl:r'=r:=by omega
  refine .inr ⟨r',h1,by omega,h3,h4,fun i hi hp=> ?_⟩
  by_cases e:i=k
  ·rw[e];exact he
  ·exact h5 i (by omega) hp
end
theorem WQ{H:Heap}{G:TG}{L:TL}{T0:av}{N:Nat}{I:av→Prop}(h:dE H G L T0)(hc:iO H G L T0)(hI:I T0)(WR:∀S r s,I S→S.oL L.u r s→I (S.pivot r s))(hinv:∀S,I S→S.WF∧S.jO∧Sz N S∧S.m=T0.m∧S.n=T0.n)
 (hN:(N:Int)≤137438953472) (hw:(L.w:Int)≤1000000) (hm:(T0.m:Int)≤1000000):
 Fn Tryz.prog 85 #[.pointer (some ⟨G.g,0,none⟩)] H (fun v H'=>∃T,I T∧dE H' G L T∧iO H' G L T∧Heap.le (rem H G.gs) (rem H' G.gs)∧((v = .int .i64 (-1)∧∀j,j<L.u→0≤T.c j)∨∃s:Nat,v = .int .i64 (s:Int)∧s<L.u∧T.c s<0∧∀i,i<T.m→T.A i s≤0)):=by
 have mA:=h.uw;refine aZ (args:=[_]) Tryz.func85 rfl rfl Tryz.ntmps85 rfl rfl fun w0=> ?_;refine ah [0] rfl ?_;refine ae (aa 1 rfl (ab [0] ?_));refine aE (JQ (γ:=av) (av.Step L.u) (fun(T:av)=>put (emp) 0 (.val (.pointer (some ⟨G.g,0,none⟩)))) (fun(T:av) H'=>dE H' G L T∧iO H' G L T∧I T∧Heap.le (rem H G.gs) (rem H' G.gs)) (T0) ((by obtain⟨h1,h2,_⟩:=hinv T0 hI;exact av.Pj h1 h2 (by rw[h.n];exact mA))) ar (⟨h,hc,hI,.refl _⟩) ?_);rintro T H1 ⟨h1,jb,Gw,fD⟩;obtain⟨Pg,Ph,cP,WS,PH⟩:=hinv T Gw;have hTw:T.n=L.w:=h1.n
 have af6:(T.m:Int)≤1000000:=by rw[WS];exact hm
 refine aE (ae (aa 1 rfl (ab [0,3] ?_)));refine kM (fun(k:Nat)=>put (put (emp) 0 (.val (.pointer (some ⟨G.g,0,none⟩)))) 3 (.val (.int .i64 (k:Int)))) (fun(k:Nat) H'=>Kept G.gs H1 H'∧((k=L.u∧∀j,j<L.u→0≤T.c j)∨(k<L.u∧T.c k<0∧∀j,j<k→0≤T.c j))) ?_ ?_
 ·
  refine aE (fY (fun(k:Nat)=>L.u-k) (fun(k:Nat)=>put (put (emp) 0 (.val (.pointer (some ⟨G.g,0,none⟩)))) 3 (.val (.int .i64 (k:Int)))) (fun(k:Nat) H'=>Kept G.gs H1 H'∧k≤L.u∧∀j,j<k→0≤T.c j) 0 (⟨.refl _ _,Nat.zero_le _,fun j hj=>by omega⟩) ar ?_);rintro k H2 ⟨fN,Lb,tw⟩;have h2:=h1.kept fN;have mU:=jb.kept fN;refine ao ?_
  by_cases bX:k<L.u
  ·
   obtain⟨gc,cc,D3,bm,BK⟩:=id mU;obtain⟨xc,nc,dc,bc,nK,yI,tU⟩:=BK.rd (dM (show k<L.w+1 by omega))
   have kT:cell H2 ((⟨G.g,0,none⟩:Addr).add 7)=some (.slice (some ⟨gc,0,none⟩) (L.w+1) cc):=by rw[←bm];exact h2.cell rfl
   have PI:=cP.c k (by omega);refine ae (aa 3 rfl (aW ag rfl rfl rfl (aR ag rfl rfl rfl (h2.cell rfl) (aG true rfl rfl (ja (by omega)) (aa 3 rfl (aW ag rfl rfl rfl (aR ag rfl rfl rfl (kT) (aa 1 rfl (cj (vs:=[.int .i64 nc,.int .i64 dc,.pointer bc]) ag rfl rfl rfl rfl nK rfl (by decide) tU (by omega) (by omega) fun _=>(aC rfl rfl (Fn.lR h2.ne (tO yI (by omega))) ?_))))))))));rintro v3 H3 ⟨dz,eF,rfl⟩;refine aa 2 rfl (ab [0,3,25] ?_);refine aD rfl (fun hb=> ?_) (fun hb=> ?_)
   ·
    have hb:0≤T.c k:=xz.1 (by simpa using hb);refine az (ah [0,3] rfl ?_);refine aE (aA rfl (aa 1 rfl (aF rfl rfl ⟨by omega,by omega⟩ (aa 1 rfl (au ?_)))));exact⟨k+1,by omega,ar,fN.trans dz,by omega,fun j hj=>by by_cases e:j=k;(rw[e];exact hb);exact tw j (by omega)⟩
   have hb:T.c k<0:=La.1 (by simpa using hb);refine aX ?_;exact⟨k,ar,fN.trans dz,.inr ⟨bX,hb,tw⟩⟩
  ·
   skip
   refine ae (aa 3 rfl (aW ag rfl rfl rfl (aR ag rfl rfl rfl (h2.cell rfl) (aG false rfl rfl (ia (by omega)) (aa 11 rfl (ab [0,3,25] ?_))))));refine dh rfl (aX ?_);exact⟨k,ar,fN,.inl ⟨by omega,fun j hj=>tw j (by omega)⟩⟩
 ·
  rintro k H3 ⟨dz,WT⟩;have h3:=h1.kept dz;have rR:=jb.kept dz;refine ao (ae (aa 3 rfl (aW ag rfl rfl rfl (aR ag rfl rfl rfl (h3.cell rfl) (aa 1 rfl (ab [0,3,33] ?_))))));refine aD rfl (fun hb=> ?_) (fun hb=> ?_)
  ·
   have hb:k=L.u:=by simp at hb;omega
   have fT:∀j,j<L.u→0≤T.c j:=by
    rcases WT with h5 | h5
    ·exact h5.2
    ·omega
   refine ae (aa 1 rfl (ab [2] ?_));refine aB ⟨.inr rfl,_,.tmp rfl (.nil),?_⟩;exact⟨T,Gw,h3,rR,fD.trans dz.le,.inl ⟨rfl,fT⟩⟩
  have hb:k≠L.u:=by simp at hb;omega
  obtain⟨bX,fV,tw⟩:k<L.u∧T.c k<0∧∀j,j<k→0≤T.c j:=by
   rcases WT with h5 | h5
   ·omega
   ·exact h5
  refine az (ah [0,3] rfl ?_);refine ae (aa 1 rfl (ab [0,3,4] ?_));refine ae (bh ff rfl (ab [0,3,4,5] ?_));refine ao (ae (aa 2 rfl (aW ag rfl rfl rfl (aR ag rfl rfl rfl (h3.cell rfl) (aa 2 rfl (ab [0,3,4,5,37,38,39] ?_))))));refine aE (fB (fun(q:Nat)(row:Int)(ls:Int×Int×Option Addr)=>T.m-q) (fun(q:Nat)(row:Int)(ls:Int×Int×Option Addr)=>put (put (put (put (put (put (put (emp) 0 (.val (.pointer (some ⟨G.g,0,none⟩)))) 3 (.val (.int .i64 (k:Int)))) 4 (.val (.int .i64 row))) 5 (.box [.int .i64 ls.1,.int .i64 ls.2.1,.pointer ls.2.2])) 37 (.val (.slice G.Ar T.m G.cr))) 38 (.val (.int .i64 (T.m:Int)))) 39 (.val (.int .i64 (q:Int)))) (fun(q:Nat)(row:Int)(ls:Int×Int×Option Addr) H'=>Kept G.gs H3 H'∧q≤T.m∧Found T k q row (rem H' G.gs) [.int .i64 ls.1,.int .i64 ls.2.1,.pointer ls.2.2]) 0 (-1) (0,0,none) (⟨.refl _ _,Nat.zero_le _,.inl ⟨rfl,fun i hi=>by omega⟩⟩) ar ?_);rintro q row ls H4 ⟨gg,C9,dy⟩;have h4:=h3.kept gg;refine ae (aa 1 rfl (ab [0,3,4,5,37,38,39,40] ?_));refine ao (aD rfl (fun hb=> ?_) (fun hb=> ?_))
  ·
   have Lc:q<T.m:=by simpa using hb
   obtain⟨pq,mR⟩:=h1.get Lc;obtain⟨xs4,BJ,lL⟩:=h4.rows;obtain⟨xk,nk,dk,bk,K8,Gv,vF⟩:=(h4.row q pq mR).rd (dM (show k<L.w+1 by omega));obtain⟨xw,nw,dw,bw,Gx,oh,Gy⟩:=(h4.row q pq mR).rd (dM (show L.w<L.w+1 by omega));have PI:=cP.A q Lc k (by omega);have ko:=cP.A q Lc L.w (by omega);refine az (ah [0,3,4,5,37,38,39] rfl ?_);refine ao (aE (ae (aa 1 rfl (aS ag rfl rfl rfl rfl rfl (BJ.le (bD _ _)) (by rw[Int.toNat_natCast];exact lL q pq mR) (by omega) (by omega) fun _=> ?_))));refine aa 2 rfl (ab [0,3,4,5,6,7,37,38,39] ?_);refine ao (ae (aa 2 rfl (cj (vs:=[.int .i64 nk,.int .i64 dk,.pointer bk]) ag rfl rfl rfl rfl K8 rfl (by decide) (by rw[Int.toNat_natCast];exact vF) (by omega) (by omega) fun _=> ?_)));refine aC rfl rfl (Fn.lR h4.ne (tO Gv (by omega))) ?_;rintro v5 H5 ⟨mu,eI,rfl⟩;have h5:=h4.kept mu;refine aa 1 rfl (ab [0,3,4,5,6,7,37,38,39,49] ?_);refine aD rfl (fun hb=> ?_) (fun hb=> ?_)
   ·
    have hb:T.A q k≤0:=PG.1 (by simpa using hb);refine aX (ah [0,3,4,5,37,38,39] rfl ?_);refine aA rfl (aF rfl rfl ⟨by omega,by omega⟩ (aa 1 rfl (au ?_)));exact⟨q+1,row,ls,by omega,ar,gg.trans mu,by omega,(dy.le mu.le).skip hb⟩
   have mr:0<T.A q k:=by
    have:¬fI (T.A q k)≤0:=by simpa using hb
    rw[PG]at this;grind
   refine az (ah [0,3,4,5,6,7,37,38,39] rfl ?_);refine bM .bJ [0,1,2,3,4,5,6,7,8,9,10,11,12,13] follows (by kernel_rfl) ?_;refine aa 3 rfl (aW ag rfl rfl rfl (aR ag rfl rfl rfl (h5.iP) (cj (vs:=[.int .i64 nw,.int .i64 dw,.pointer bw]) ag rfl rfl rfl rfl (Gx.le eI) rfl (by decide) (by rw[Int.toNat_natCast];exact Gy) (by omega) (by omega) fun _=> ?_)));refine aa 2 rfl (cj (vs:=[.int .i64 nk,.int .i64 dk,.pointer bk]) ag rfl rfl rfl rfl (K8.le eI) rfl (by decide) (by rw[Int.toNat_natCast];exact vF) (by omega) (by omega) fun _=> ?_);refine aY rfl rfl (Fn.lr h5.ne (Wt (N:=N) (oh.le mu.le) (Gv.le mu.le) ko PI (by omega) (by grind))) (fun _ _ h=>by first | exact h.le | exact h.1) ?_;rintro v6 H6 ⟨qD,iy,nq,dq,bq,rfl,PJ⟩;have h6:=h5.kept qD;have hsq:=D5 (T.A q L.w) (T.A q k);rw[←hTw]at PJ hsq ko;have WU:=(dy.le mu.le).le qD.le;refine bh ff rfl ?_;obtain⟨ti,aj,ak⟩:=cH;refine aH (.inl ⟨rfl,rfl⟩) rfl rfl rfl aj ak rfl rfl rfl (ab [0,3,4,5,6,8,37,38,39] ?_);refine aE (kM (fun(bz:Bool)=>put (put (put (put (put (put (put (put (put (put (emp) 0 (.val (.pointer (some ⟨G.g,0,none⟩)))) 3 (.val (.int .i64 (k:Int)))) 4 (.val (.int .i64 row))) 5 (.box [.int .i64 ls.1,.int .i64 ls.2.1,.pointer ls.2.2])) 6 (.val (.int .i64 (q:Int)))) 8 (.box [.int .i64 nq,.int .i64 dq,.pointer bq])) 37 (.val (.slice G.Ar T.m G.cr))) 38 (.val (.int .i64 (T.m:Int)))) 39 (.val (.int .i64 (q:Int)))) 62 (.val (.bool bz))) (fun(bz:Bool) H'=>Kept G.gs H6 H'∧(bz=true→row = -1∨∀r:Nat,row=(r:Int)→T.A q T.n/T.A q k<T.A r T.n/T.A r k)∧(bz=false→∃r:Nat,row=(r:Int)∧r<q∧¬T.A q T.n/T.A q k<T.A r T.n/T.A r k)) ?_ ?_)
   ·
    refine ae (aa 3 rfl (ab [0,3,4,5,6,8,37,38,39,62] ?_));refine aD rfl (fun hb=> ?_) (fun hb=> ?_)
    ·
     have gD:row<0:=by simpa using hb
     refine az ?_;exact⟨_,ar,.refl _ _,fun _=> .inl (by rcases dy with hx | hx;exact hx.1;obtain⟨r,hr,_⟩:=hx;omega),fun e=>by rw[hb]at e;cases e⟩
    have gD:¬row<0:=by simpa using hb
    obtain⟨r1,D6,WV,af7,D7,_⟩:∃r:Nat,row=(r:Int)∧r<q∧0<T.A r k∧bS (rem H6 G.gs) [.int .i64 ls.1,.int .i64 ls.2.1,.pointer ls.2.2] (T.A r T.n/T.A r k)∧True:=by
     rcases WU with hx | ⟨r,h1,h2,h3,h4,_⟩
     ·omega
     ·exact⟨r,h1,h2,h3,h4,trivial⟩
    have Gz:=D5 (T.A r1 T.n) (T.A r1 k);have qq:=cP.A r1 (by omega) T.n (by omega);have lJ:=cP.A r1 (by omega) k (by omega);refine aA rfl (aa 2 rfl (aC rfl rfl (Fn.lr h6.ne (DQ (N:=2*N) PJ D7 (by omega) (by omega) (by omega))) ?_));rintro va Ha ⟨nL,iD,na,da,ba,rfl,zk⟩;have hss:=rU (T.A q T.n/T.A q k) (T.A r1 T.n/T.A r1 k);refine aC rfl rfl (Fn.lR (nL.ne h6.ne) (tO zk (by omega))) ?_;rintro vb Hb ⟨qE,eE,rfl⟩;refine aa 2 rfl (au ?_);exact⟨_,ar,nL.trans qE,fun e=> .inr fun r hr=>(by have:=La.1 (of_decide_eq_true e);obtain rfl:r=r1:=(by omega);grind),fun e=>⟨r1,D6,WV,fun bX=>of_decide_eq_false e (La.2 (by grind))⟩⟩
   rintro bz H7 ⟨qF,dY,gD⟩;have h7:=h6.kept qF;have Ld:=((gg.trans mu).trans qD).trans qF;have GA:=WU.le qF.le;have PK:=PJ.le qF.le;refine aD rfl (fun hb=> ?_) (fun hb=> ?_)
   ·
    skip
    refine eo .bJ [0,1,2,3] follows (by kernel_rfl) ?_;refine vr 3 ?_;obtain⟨ti,aj,ak⟩:=cH;refine aH (.inl ⟨rfl,rfl⟩) rfl rfl rfl aj ak rfl rfl rfl (au (ah [0,3,4,5,37,38,39] rfl ?_));refine aA rfl (aF rfl rfl ⟨by omega,by omega⟩ (aa 1 rfl (au ?_)));exact⟨q+1,(q:Int),(nq,dq,bq),by omega,ar,Ld,by omega,GA.new mr PK (dY hb)⟩
   obtain⟨r1,D6,WV,amH⟩:=gD hb
   obtain⟨af7,D7⟩:0<T.A r1 k∧bS (rem H7 G.gs) [.int .i64 ls.1,.int .i64 ls.2.1,.pointer ls.2.2] (T.A r1 T.n/T.A r1 k):=by
    rcases GA with hx | ⟨r,h1,h2,h3,h4,_⟩
    ·omega
    ·
     obtain rfl:r=r1:=by omega
     exact⟨h3,h4⟩
   have Gz:=D5 (T.A r1 T.n) (T.A r1 k);have qq:=cP.A r1 (by omega) T.n (by omega);have lJ:=cP.A r1 (by omega) k (by omega);have hss:=rU (T.A q T.n/T.A q k) (T.A r1 T.n/T.A r1 k)
   obtain⟨gb,cb,sz,ll,du,aV⟩:∃gb cb sz,G.bb = [gb]∧G.bv = .slice (some ⟨gb,0,none⟩) T.m cb∧H7 gb=some ⟨eN T.B T.m,sz,3,true⟩:=by
    rcases h7.basis with h8 | h8
    ·
     have:=h8.1
     omega
    ·exact h8
   have K9:gb∈G.gs:=TG.mz (by rw[ll];exact List.mem_singleton.2 rfl)
   by_cases heq:T.A q T.n/T.A q k=T.A r1 T.n/T.A r1 k
   ·
    skip
    refine bM .bJ [0,1,2,3,4,5,6,7,8,9,10,11,12,13,14,15,16,17,18,19,20,21,22] follows (by kernel_rfl) ?_;refine aa 2 rfl (aY rfl rfl (Fn.lr h7.ne (DQ (N:=2*N) PK D7 (by omega) (by omega) (by omega))) (fun _ _ h=>by first | exact h.le | exact h.1) ?_);rintro va Ha ⟨nL,iD,na,da,ba,rfl,zk⟩;refine aY rfl rfl (Fn.lR (nL.ne h7.ne) (tO zk (by omega))) (fun _ _ h=>by first | exact h.le | exact h.1) ?_;rintro vb Hb ⟨qE,eE,rfl⟩;have h8:=(h7.kept nL).kept qE
    have jQ:cell Hb ((⟨G.g,0,none⟩:Addr).add 8)=some (.slice (some ⟨gb,0,none⟩) T.m cb):=by rw[←du];exact h8.cell rfl
    have fG:Rd Hb (some ⟨gb,0,none⟩) (eN T.B T.m):=dQ (by rw[qE.same gb K9,nL.same gb K9];exact aV);refine aG true rfl rfl (iL (xA.2 (by rw[heq];grind))) ?_;refine aa 3 rfl (aW ag rfl rfl rfl (aR ag rfl rfl rfl (jQ) (aa 1 rfl (aS ag rfl rfl rfl rfl rfl (fG) (by rw[Int.toNat_natCast];exact gI Lc) (by omega) (by omega) fun _=> ?_))));refine aa 2 rfl (aW ag rfl rfl rfl (aR ag rfl rfl rfl (jQ) (aa 1 rfl (aS ag rfl rfl rfl rfl rfl (fG) (by rw[D6,Int.toNat_natCast];exact gI (by omega)) (by omega) (by omega) fun _=> ?_))));refine aa 3 rfl (ab [0,3,4,5,6,37,38,39,72] ?_);refine aD rfl (fun hb=> ?_) (fun hb=> ?_)
    ·
     have hB:T.B q<T.B r1:=by simp at hb;omega
     refine aA rfl (aa 2 rfl (au (ah [0,3,4,5,37,38,39] rfl ?_)));refine aA rfl (aF rfl rfl ⟨by omega,by omega⟩ (aa 1 rfl (au ?_)));exact⟨q+1,(q:Int),ls,by omega,ar,(Ld.trans nL).trans qE,by omega,((GA.le nL.le).le qE.le).tie mr D6 heq hB⟩
    have hB:T.B r1≤T.B q:=by simp at hb;omega
    refine az (ah [0,3,4,5,37,38,39] rfl ?_);refine aA rfl (aF rfl rfl ⟨by omega,by omega⟩ (aa 1 rfl (au ?_)));exact⟨q+1,row,ls,by omega,ar,(Ld.trans nL).trans qE,by omega,((GA.le nL.le).le qE.le).stay mr D6 (.inr ⟨heq.symm,hB⟩)⟩
   skip
   refine bM .bJ [0,1,2,3,4,5,6,7,8,9,10,11,12,13,14,15,16,17,18,19,20,21,22] follows (by kernel_rfl) ?_;refine aa 2 rfl (aY rfl rfl (Fn.lr h7.ne (DQ (N:=2*N) PK D7 (by omega) (by omega) (by omega))) (fun _ _ h=>by first | exact h.le | exact h.1) ?_);rintro va Ha ⟨nL,iD,na,da,ba,rfl,zk⟩;refine aY rfl rfl (Fn.lR (nL.ne h7.ne) (tO zk (by omega))) (fun _ _ h=>by first | exact h.le | exact h.1) ?_;rintro vb Hb ⟨qE,eE,rfl⟩;refine aG false rfl rfl (ks (fun e=>heq (by have:=xA.1 e;grind))) ?_;refine aa 18 rfl (ab [0,3,4,5,6,37,38,39,72] ?_);refine dh rfl (az (ah [0,3,4,5,37,38,39] rfl ?_));refine aA rfl (aF rfl rfl ⟨by omega,by omega⟩ (aa 1 rfl (au ?_)));exact⟨q+1,row,ls,by omega,ar,(Ld.trans nL).trans qE,by omega,((GA.le nL.le).le qE.le).stay mr D6 (.inl (by grind))⟩
  have hb:T.m≤q:=by simpa using hb
  obtain rfl:q=T.m:=by omega
  have WW:=dz.trans gg;refine aX (ah [0,3,4] rfl ?_);refine ao (ae (aa 2 rfl (ab [0,3,4,98] ?_)));refine aD rfl (fun hb=> ?_) (fun hb=> ?_)
  ·
   have gD:row<0:=by simpa using hb
   have fT:∀i,i<T.m→T.A i k≤0:=by
    rcases dy with hx | ⟨r,hr,_⟩
    ·exact hx.2
    ·omega
   refine ae (aa 2 rfl (ab [2] ?_));refine aB ⟨.inr rfl,_,.tmp rfl (.nil),?_⟩;exact⟨T,Gw,h4,rR.kept gg,fD.trans WW.le,.inr ⟨k,rfl,bX,fV,fT⟩⟩
  have gD:¬row<0:=by simpa using hb
  obtain⟨rr,oQ,kz,jr,oR⟩:∃r:Nat,row=(r:Int)∧r<T.m∧0<T.A r k∧∀i,i<T.m→0<T.A i k→T.A r T.n/T.A r k<T.A i T.n/T.A i k∨(T.A r T.n/T.A r k=T.A i T.n/T.A i k∧T.B r≤T.B i):=by
   rcases dy with hx | ⟨r,h1,h2,h3,_,h5⟩
   ·omega
   ·exact⟨r,h1,h2,h3,h5⟩
  have jM:T.oL L.u rr k:=⟨bX,fV,tw,kz,jr,oR⟩;obtain⟨_,_,af8,_,_⟩:=hinv _ (WR _ _ _ Gw jM);refine az (ah [0,3,4] rfl ?_);refine aA rfl (aa 3 rfl (aC rfl rfl (by rw[oQ];exact WL (N:=N) h4 (rR.kept gg) kz (by omega) (by grind) cP af8 (by omega) hw af6) ?_));rintro v9 H9 ⟨h9,GB,GC⟩;refine au ?_;exact⟨T.pivot rr k,⟨rr,k,jM,rfl⟩,ar,h9,GB,WR _ _ _ Gw jM,(fD.trans WW.le).trans GC⟩
end Go.aq
namespace Go.aq
open Go.Proofs Num Lp
structure GD(K H:Heap)(G:TG)(L:TL)(T:av):Prop where
 kh:Heap.le K H
 cell:∀(k:Nat)(v:Value),(G.cells L.w L.u T.m)[k]? = some v→aq.cell H ((⟨G.g,0,none⟩:Addr).add k)=some v
 rows:∃xs,Rd H G.Ar xs∧∀i,i<T.m→∃p:Nat×Nat,xs[i]? = some (.slice (some ⟨p.1,0,none⟩) (L.w+1) p.2)∧lq K H p.1 (aK (T.A i) (L.w+1))
 basis:T.m=0∨∃gb cb,G.bv = .slice (some ⟨gb,0,none⟩) T.m cb∧Rd H (some ⟨gb,0,none⟩) (eN T.B T.m)
 WX:T.m=0→∃A c,G.bv = .slice A 0 c
 plus:aQ vE 1 H G.pv L.plus
 minus:aQ j8 1 H G.mv L.minus
 j9:aQ vE 1 H G.uv L.j9
 jP:aQ bS 3 K G.sv L.jP
theorem dE.w{H0 K H:Heap}{G:TG}{L:TL}{T:av}(h:dE H0 G L T)(hle:Heap.le (rem H0 G.gs) K)(hk:Heap.le K H)(hs:∀q,q∈G.gs→H q=H0 q):GD K H G L T where
 kh:=hk
 cell:=fun k v hv=>by
  have:=hs _ G.sj
  simp[aq.cell,im,this,h.st,hv]
 rows:=by
  obtain⟨xs,h1,h2⟩:=h.rows
  refine⟨xs,h1.le (hle.trans hk),fun i hi=> ?_⟩
  obtain⟨p,hp⟩:=h.get hi
  exact⟨p,h2 i p hp,(h.row i p hp).le hle (hs _ (TG.gJ hp))⟩
 basis:=by
  rcases h.basis with h1 | ⟨gb,cb,sz,h1,h2,h3⟩
  ·exact .inl h1.1
  ·exact .inr ⟨gb,cb,h2,dQ (by rw[hs _ (TG.mz (by rw[h1];exact List.mem_singleton.2 rfl))];exact h3)⟩
 WX:=fun hm=>by
  rcases h.basis with h1 | ⟨gb,cb,sz,h1,h2,h3⟩
  ·exact⟨none,0,h1.2.2⟩
  ·exact⟨_,cb,by rw[h2,hm]⟩
 plus:=(h.plus.le my hle).le my hk
 minus:=(h.minus.le kS hle).le kS hk
 j9:=(h.j9.le my hle).le my hk
 jP:=h.jP.le jc hle
theorem dE.self{H:Heap}{G:TG}{L:TL}{T:av}(h:dE H G L T):GD (rem H G.gs) H G L T:=h.w (.refl _) (bD _ _) (fun _ _=>rfl)
theorem GD.bv{K H:Heap}{G:TG}{L:TL}{T:av}(h:GD K H G L T):∃A c,G.bv = .slice A T.m c∧Rd H A (eN T.B T.m):=by
 rcases h.basis with h1 | ⟨gb,cb,h1,h2⟩
 ·obtain⟨A,c,h2⟩:=h.WX h1
  refine⟨A,c,by rw[h1];exact h2,fun i v hv=> ?_⟩
  rw[h1]at hv
  simp[eN]at hv
 ·exact⟨_,cb,h1,h2⟩
theorem aQ.one{α:Type}{P:Heap→List Value→α→Prop}{H:Heap}{v:Value}{l:List α}(h:aQ P 1 H v l):∃A c xs,v = .slice A l.length c∧Rd H A xs∧∀(i:Nat)(a:α),l[i]? = some a→∃u,xs[i]? = some u∧P H [u] a:=by
 obtain⟨A,c,xs,h1,_,h3,h4⟩:=h
 exact⟨A,c,xs,h1,h3,fun i a ha=>h4.one ha⟩
theorem aQ.num{H:Heap}{v:Value}{l:List Rat}(h:aQ bS 3 H v l):∃A c xs,v = .slice A l.length c∧Rd H A xs∧∀(i:Nat)(q:Rat),l[i]? = some q→∃n d b,bS H [.int .i64 n,.int .i64 d,.pointer b] q∧∀(j:Nat)(u:Value),[.int .i64 n,.int .i64 d,.pointer b][j]? = some u→xs[i*3+j]? = some u:=by
 obtain⟨A,c,xs,h1,_,h3,h4⟩:=h
 refine⟨A,c,xs,h1,h3,fun i q hq=> ?_⟩
 obtain⟨vs,_,h5,h6⟩:=h4.get hq
 obtain⟨n,d,b,rfl⟩:=h5.cells
 exact⟨n,d,b,h5,h6⟩
structure fp(gs:List Nat)(H0 H:Heap)(z:Nat)(xs:List Value)(sz e:Nat):Prop where
 aw:H z=some ⟨xs,sz,e,true⟩
 zn:H0 z=none
 zg:¬z∈gs
 le:Heap.le (rem H0 gs) (rem H (z::gs))
 same:∀q,q∈gs→H q=H0 q
section
variable {gs:List Nat} {H0 H H':Heap} {z:Nat} {xs oc:List Value} {sz e:Nat}
theorem fp.new(hn:∀q,q∈gs→H0 q≠none)(hz:H0 z=none):fp gs H0 (ins H0 z ⟨xs,sz,e,true⟩) z xs sz e:=
 ⟨bn _ _ _,hz,fun h=>hn z h hz,by rw[tF _ hz];exact .refl _,fun q hq=>bg _ _ (fun e=>hn q hq (by rw[e];exact hz))⟩
theorem fp.ne(h:fp gs H0 H z xs sz e)(hn:∀q,q∈gs→H0 q≠none):∀q,q∈z::gs→H q≠none:=fun q hq=>by
 rcases List.mem_cons.1 hq with rfl | hq
 ·rw[h.aw];simp
 ·rw[h.same q hq];exact hn q hq
theorem fp.kept(h:fp gs H0 H z xs sz e)(k:Kept (z::gs) H H'):fp gs H0 H' z xs sz e:=
 ⟨by rw[k.same z (List.mem_cons_self ..)];exact h.aw,h.zn,h.zg,h.le.trans k.le,fun q hq=>(k.same q (List.mem_cons_of_mem _ hq)).trans (h.same q hq)⟩
theorem fp.set(h:fp gs H0 H z xs sz e){en:Ent}(he:en=⟨oc,sz,e,true⟩):fp gs H0 (ins H z en) z oc sz e:=
 ⟨by rw[bn,he],h.zn,h.zg,by rw[cE _ (List.mem_cons_self ..)];exact h.le,fun q hq=>by rw[bg _ _ (fun(e':q=z)=>h.zg (by rw[←e'];exact hq))];exact h.same q hq⟩
theorem fp.hle(h:fp gs H0 H z xs sz e):Heap.le H0 H:=fun g en hg=>by
 by_cases hm:g∈gs
 ·exact⟨en,by rw[h.same g hm];exact hg,.refl en⟩
 ·obtain⟨e',h1,h2⟩:=h.le g en (by rw[bL hm];exact hg)
  obtain⟨NI,h3,h4⟩:=bD H (z::gs) g e' h1
  exact⟨NI,h3,h2.trans h4⟩
theorem fp.done(h:fp gs H0 H z xs sz e):Kept gs H0 H∧Heap.le (rem H (z::gs)) (rem H gs):=⟨⟨h.le.trans (OZ H z gs),h.same⟩,OZ H z gs⟩
theorem fp.rd(h:fp gs H0 H z xs sz e):Rd (rem H gs) (some ⟨z,0,none⟩) xs:=fun i v hv=>⟨_,rfl,by simp[aq.cell,im,bL h.zg,h.aw,hv]⟩
theorem fp.tab{H:Heap}{G:TG}{L:TL}{T:av}(ht:dE H0 G L T)(h:fp G.gs H0 H z xs sz e):GD (rem H (z::G.gs)) H G L T:=ht.w h.le (bD _ _) h.same
end
structure D8{α:Type}(P:Heap→List Value→α→Prop)(s:Nat)(gs:List Nat)(H:Heap)(l:List α)(v:Value)(H':Heap):Prop where
 kept:Kept gs H H'
 le:Heap.le H H'
 val:aQ P s (rem H' gs) v l
theorem Fn.Le{α:Type}{P:Heap→List Value→α→Prop}{s:Nat}{Q:Program}{f:FuncId}{args:Array Value}{H:Heap}{gs:List Nat}{l:List α}(jB:∀g,g∈gs→H g≠none)(h:Fn Q f args (rem H gs) (Ps P s (rem H gs) l)):Fn Q f args H (D8 P s gs H l):=
 (Fn.frame jB h).mono fun v H' hf=>⟨.of hf fun v K hp=>hp.1,hf.le fun v K hp=>hp.1,hf.post.2⟩
structure FrZ(gs:List Nat)(H:Heap)(n:Nat)(v:Value)(H':Heap):Prop where
 le:Heap.le H H'
 val:∃z xs,v = .slice (some ⟨z,0,none⟩) n n∧fp gs H H' z xs (n*3) 121∧∀K:Heap,bA (bS K) 3 xs (aK (fun _=>0) n)
theorem af9(n:Nat):aK (fun _=>0) n=List.replicate n 0:=by
 apply List.ext_getElem?
 intro i
 by_cases h:i<n
 ·rw[dM h,List.getElem?_replicate,if_pos h]
 ·rw[List.getElem?_eq_none (by rw[bB];omega),List.getElem?_eq_none (by rw[List.length_replicate];omega)]
theorem GF{H:Heap}{gs:List Nat}(jB:∀g,g∈gs→H g≠none){n:Nat}(hn:(n:Int)≤8796093022208):Fn Tryz.prog 90 #[.int .i64 (n:Int)] H (FrZ gs H n):=
 (afI hn).mono fun v H' ⟨g,xs,h1,h2,h3,h4⟩=>by
  rw[List.length_replicate]at h2 h3
  refine⟨by rw[h3];exact Heap.bG _ h1,g,xs,h2,by rw[h3];exact .new jB h1,fun K=>by rw[af9];exact h4 K⟩
def bZ(f:Nat→Rat)(k:Nat)(q:Rat)(j:Nat):Rat:=if j=k then q else f j
theorem PL{f:Nat→Rat}{n k:Nat}{q:Rat}:(aK f n).set k q=aK (bZ f k q) n:=by
 apply List.ext_getElem?
 intro j
 by_cases hj:j<n
 ·by_cases e:j=k
  ·subst e
   rw[List.getElem?_set_self (by rw[bB];exact hj),dM hj];simp[bZ]
  ·rw[List.getElem?_set_ne (fun e'=>e e'.symm),dM hj,dM hj];simp[bZ,e]
 ·rw[List.getElem?_eq_none (by rw[List.length_set,bB];omega),List.getElem?_eq_none (by rw[bB];omega)]
theorem so{K:Heap}{xs vs:List Value}{f:Nat→Rat}{n k:Nat}{q:Rat}(h:bA (bS K) 3 xs (aK f n))(hk:k<n)(hv:bS K vs q):bA (bS K) 3 (aJ xs (k*3) vs) (aK (bZ f k q) n):=by
 rw[←PL];exact h.set (by rw[bB];exact hk) hv hv.len
theorem oT{xs vs:List Value}{s e k sz:Nat}:({(⟨xs,s,e,true⟩:Ent)with xs:=aJ xs (0+k*sz) vs}:Ent)=⟨aJ xs (k*sz) vs,s,e,true⟩:=by rw[Nat.zero_add]
end Go.aq
namespace Go.aq
open Go.Proofs Num Lp
theorem aga{u k:Nat}(h:u≤k)(j:Nat):av.jq u (k+1) j=bZ (av.jq u k) k 1 j:=by
 unfold bZ av.jq
 by_cases e:j=k
 ·rw[if_pos (by omega),if_pos e]
 ·rw[if_neg e]
  by_cases e2:u≤j∧j<k
  ·rw[if_pos (by omega)];simp only[e2,and_self,if_true]
  ·rw[if_neg (by omega)];simp only[e2,if_false]
theorem WY{H:Heap}{G:TG}{L:TL}{T:av}(h:dE H G L T)(hc:iO H G L T)(hs:(aN (T.c L.w):Int)≤1099511627776):
 Fn Tryz.prog 86 #[.pointer (some ⟨G.g,0,none⟩)] H (WE G.gs H (-(T.c L.w))):=by
 obtain⟨gc,cc,D3,bm,BK⟩:=id hc
 obtain⟨xc,nc,dc,bc,nK,yI,tU⟩:=BK.rd (dM (show L.w<L.w+1 by omega))
 have kT:cell H ((⟨G.g,0,none⟩:Addr).add 7)=some (.slice (some ⟨gc,0,none⟩) (L.w+1) cc):=by rw[←bm];exact h.cell rfl
 refine aZ (args:=[_]) Tryz.func86 rfl rfl Tryz.ntmps86 rfl rfl fun w0=> ?_;refine ah [0] rfl ?_;refine ae (bh ff rfl (ab [0,2] ?_));refine bM .bJ [0,1,2,3,4,5,6,7,8,9,10,11] follows (by kernel_rfl) ?_;refine aa 2 rfl (aW ag rfl rfl rfl (aR ag rfl rfl rfl (kT) (aa 2 rfl (aW ag rfl rfl rfl (aR ag rfl rfl rfl (h.iP) (cj (vs:=[.int .i64 nc,.int .i64 dc,.pointer bc]) ag rfl rfl rfl rfl nK rfl (by decide) (by rw[Int.toNat_natCast];exact tU) (by omega) (by omega) fun _=> ?_))))));refine aY rfl rfl (Fn.lr h.ne (DK yI hs)) (fun _ _ h=>by first | exact h.le | exact h.1) ?_;rintro v1 H1 ⟨gC,bx,n1,d1,b1,rfl,b8⟩;obtain⟨ti,aj,ak⟩:=cH;refine aH (.inl ⟨rfl,rfl⟩) rfl rfl rfl aj ak rfl rfl rfl (ab [2] ?_);obtain⟨bP,aL,aM⟩:=cH;refine aB ⟨.inr rfl,_,.agg rfl Tryz.underlying121 aL aM (.nil),?_⟩;exact⟨gC,bx,n1,d1,b1,rfl,b8⟩
theorem WZ{H:Heap}{G:TG}{L:TL}{T:av}(h:dE H G L T)(hw:(L.w:Int)≤1000000):
 Fn Tryz.prog 84 #[.pointer (some ⟨G.g,0,none⟩)] H (D8 bS 3 G.gs H (aK (av.jq L.u L.w) L.w)):=by
 have mA:=h.uw;refine aZ (args:=[_]) Tryz.func84 rfl rfl Tryz.ntmps84 rfl rfl fun w0=> ?_;refine ah [0] rfl ?_;refine ae (aa 1 rfl (ab [0] ?_));refine ae (aa 2 rfl (aW ag rfl rfl rfl (aR ag rfl rfl rfl (h.iP) (aC rfl rfl (GF h.ne (by omega)) ?_))));rintro v1 H1 ⟨bx,z,xs,rfl,kA,ix⟩;have gi:=kA.tab h;refine aa 1 rfl (ab [0,3] ?_);refine ao (ae (aa 2 rfl (aW ag rfl rfl rfl (aR ag rfl rfl rfl (gi.cell 1 _ rfl) (aa 1 rfl (ab [0,3,4] ?_))))));refine aE (gn (fun(k:Nat)(xs:List Value)=>L.w-k) (fun(k:Nat)(xs:List Value)=>put (put (put (emp) 0 (.val (.pointer (some ⟨G.g,0,none⟩)))) 3 (.val (.slice (some ⟨z,0,none⟩) L.w L.w))) 4 (.val (.int .i64 (k:Int)))) (fun(k:Nat)(xs:List Value) H'=>fp G.gs H H' z xs (L.w*3) 121∧(∀K:Heap,bA (bS K) 3 xs (aK (av.jq L.u k) L.w))∧L.u≤k∧k≤L.w) L.u xs (⟨kA,fun K=>by rw[ln (g:=fun _=>0) (fun j _=>by unfold av.jq;rw[if_neg (by omega)])];exact ix K,Nat.le_refl _,mA⟩) ar ?_);rintro k xs H2 ⟨eO,kU,huk,hkw⟩;have jA:=eO.tab h;have cZ:=(kU H).len;rw[bB]at cZ;refine ao (ae (aa 3 rfl (aW ag rfl rfl rfl ?_)))
 refine aR ag rfl rfl rfl (by have:=jA.cell 0 _ rfl;rwa [im]at this) ?_;refine aa 1 rfl (ab [0,3,4,19] ?_);refine aD rfl (fun hb=> ?_) (fun hb=> ?_)
 ·
  have hb:k<L.w:=by simpa using hb
  refine az (ah [0,3,4] rfl ?_);refine ao (aE (aA rfl (aa 2 rfl (aC rfl rfl (xa) ?_))));rintro v3 H3 ⟨e3,rfl⟩;rw[e3];obtain⟨ti,aj,ak⟩:=cH;refine cV (.inl rfl) ag rfl rfl rfl (by omega) (by omega) (eO.aw) rfl (by show 0+L.w*3≤xs.length;omega) aj ak (fun _=>rfl) rfl rfl rfl fun _=> ?_;refine au (ah [0,3,4] rfl ?_);refine aA rfl (aa 1 rfl (aF rfl rfl ⟨by omega,by omega⟩ (aa 1 rfl (au ?_))));exact⟨k+1,aJ xs (k*3) [.int .i64 1,.int .i64 1,.pointer none],by omega,ar,eO.set oT,fun K=>by rw[ln (g:=bZ (av.jq L.u k) k 1) (fun j _=>aga huk j)];exact so (kU K) hb (w9 K (n:=1) (by decide) (by decide)),by omega,by omega⟩
 ·
  have hb:L.w≤k:=by simpa using hb
  obtain rfl:k=L.w:=by omega
  refine aX (ah [3] rfl ?_);refine ae (aa 2 rfl (ab [2] ?_));refine aB ⟨.inr rfl,_,.tmp rfl (.nil),?_⟩;exact⟨eO.done.1,eO.hle,some ⟨z,0,none⟩,L.w,xs,by rw[bB];rfl,by rw[bB];exact Nat.le_refl _,eO.rd,kU _⟩
theorem agb{H:Heap}{G:TG}{L:TL}{T0:av}{N:Nat}{J:Nat→av→Prop}(h:dE H G L T0)(hc:iO H G L T0)(hJ:J 0 T0)(W0:∀k S,J k S→k<S.m→(S.B k<L.u∨∀j,j<L.u→S.A k j=0)→J (k+1) S)
 (agc:∀k S s,J k S→k<S.m→L.u≤S.B k→s<L.u→S.A k s≠0→J (k+1) (S.pivot k s)) (hinv:∀k S,J k S→Sz N S∧S.m=T0.m∧S.n=T0.n) (hN:(N:Int)≤137438953472) (hw:(L.w:Int)≤1000000) (hm:(T0.m:Int)≤1000000):
 Fn Tryz.prog 89 #[.pointer (some ⟨G.g,0,none⟩)] H (fun _ H'=>∃T,J T0.m T∧dE H' G L T∧iO H' G L T∧Heap.le (rem H G.gs) (rem H' G.gs)):=by
 have mA:=h.uw
 obtain⟨Ab,cb,du,_⟩:=h.self.bv
 have jQ:cell H ((⟨G.g,0,none⟩:Addr).add 8)=some (.slice Ab T0.m cb):=by rw[←du];exact h.cell rfl
 refine aZ (args:=[_]) Tryz.func89 rfl rfl Tryz.ntmps89 rfl rfl fun w0=> ?_;refine ah [0] rfl ?_;refine ae (aa 2 rfl (aW ag rfl rfl rfl (aR ag rfl rfl rfl (jQ) (aa 2 rfl (ab [0,8,9,10] ?_)))));refine aE (gn (fun(k:Nat)(T:av)=>T0.m-k) (fun(k:Nat)(T:av)=>put (put (put (put (emp) 0 (.val (.pointer (some ⟨G.g,0,none⟩)))) 8 (.val (.slice Ab T0.m cb))) 9 (.val (.int .i64 (T0.m:Int)))) 10 (.val (.int .i64 (k:Int)))) (fun(k:Nat)(T:av) H'=>dE H' G L T∧iO H' G L T∧J k T∧Heap.le (rem H G.gs) (rem H' G.gs)∧k≤T0.m) 0 T0 (⟨h,hc,hJ,.refl _,Nat.zero_le _⟩) ar ?_);rintro k T H1 ⟨h1,jb,GH,fD,gC⟩;obtain⟨cP,WS,PH⟩:=hinv k T GH;obtain⟨A2,c2,GI,Gb⟩:=h1.self.bv;rw[du]at GI
 obtain⟨rfl,-,rfl⟩:Ab=A2∧T0.m=T.m∧cb=c2:=by simpa using GI
 refine ae (aa 1 rfl (ab [0,8,9,10,11] ?_));refine ao (aD rfl (fun hb=> ?_) (fun hb=> ?_))
 ·
  have iQ:k<T0.m:=by simpa using hb
  have BL:k<T.m:=by omega
  obtain⟨pk,qB⟩:=h1.get BL;refine az (ah [0,8,9,10] rfl ?_);refine ao (aE (ae (aa 1 rfl (aS ag rfl rfl rfl rfl rfl (Gb) (by rw[Int.toNat_natCast];exact gI BL) (by omega) (by omega) fun _=> ?_))));refine aa 2 rfl (ab [0,2,3,8,9,10] ?_);refine ao (ae (aa 3 rfl (aW ag rfl rfl rfl (aR ag rfl rfl rfl (h1.cell rfl) (aa 1 rfl (ab [0,2,8,9,10,20] ?_))))));refine aD rfl (fun hb=> ?_) (fun hb=> ?_)
  ·
   have hb:T.B k<L.u:=by simp at hb;omega
   refine aX (ah [0,8,9,10] rfl ?_);refine aA rfl (aF rfl rfl ⟨by omega,by omega⟩ (aa 1 rfl (au ?_)));exact⟨k+1,T,by omega,ar,h1,jb,W0 k T GH BL (.inl hb),fD,by omega⟩
  ·
   have hBu:L.u≤T.B k:=by simp at hb;omega
   refine az (ah [0,2,8,9,10] rfl ?_);refine ae (aa 2 rfl (aW ag rfl rfl rfl (aR ag rfl rfl rfl (h1.cell rfl) (aa 1 rfl (ab [0,2,8,9,10,24,25] ?_)))));refine aE (fY (fun(j:Nat)=>L.u-j) (fun(j:Nat)=>put (put (put (put (put (put (put (emp) 0 (.val (.pointer (some ⟨G.g,0,none⟩)))) 2 (.val (.int .i64 (k:Int)))) 8 (.val (.slice Ab T0.m cb))) 9 (.val (.int .i64 (T0.m:Int)))) 10 (.val (.int .i64 (k:Int)))) 24 (.val (.int .i64 (L.u:Int)))) 25 (.val (.int .i64 (j:Int)))) (fun(j:Nat) H'=>Kept G.gs H1 H'∧j≤L.u∧∀i,i<j→T.A k i=0) 0 (⟨.refl _ _,Nat.zero_le _,fun i hi=>by omega⟩) ar ?_);rintro j H3 ⟨dz,hju,sq⟩;have h3:=h1.kept dz;refine ae (aa 1 rfl (ab [0,2,8,9,10,24,25,26] ?_));refine ao (aD rfl (fun hb=> ?_) (fun hb=> ?_))
   ·
    have W1:j<L.u:=by simpa using hb
    obtain⟨PM,xB,gT⟩:=h3.rows;obtain⟨xj,nj,dj,bj,hrj,hnj,W6⟩:=(h3.row k pk qB).rd (dM (show j<L.w+1 by omega));have W8:=cP.A k BL j (by rw[h1.n];omega);refine az (ah [0,2,8,9,10,24,25] rfl ?_);refine ao (aE (ae (aa 2 rfl (ab [0,2,4,8,9,10,24,25] ?_))));refine ae (aa 2 rfl (aW ag rfl rfl rfl (aR ag rfl rfl rfl (h3.cell rfl) (aa 1 rfl (aS ag rfl rfl rfl rfl rfl (xB.le (bD _ _)) (by rw[Int.toNat_natCast];exact gT k pk qB) (by omega) (by omega) fun _=> ?_)))));refine aa 1 rfl (cj (vs:=[.int .i64 nj,.int .i64 dj,.pointer bj]) ag rfl rfl rfl rfl hrj rfl (by decide) (by rw[Int.toNat_natCast];exact W6) (by omega) (by omega) fun _=> ?_);refine aC rfl rfl (Fn.lR h3.ne (tO hnj (by omega))) ?_;rintro v4 H4 ⟨gg,cM,rfl⟩;have h4:=h3.kept gg;refine aa 1 rfl (ab [0,2,4,8,9,10,24,25,39] ?_);refine aD rfl (fun hb=> ?_) (fun hb=> ?_)
    ·
     have Xa:T.A k j≠0:=fun e=>by rw[e]at hb;simp[fI]at hb
     have Xb:=agc k T j GH BL hBu W1 Xa;obtain⟨Xc,_,_⟩:=hinv _ _ Xb;refine ae (aa 3 rfl (aC rfl rfl (WL (N:=N) h4 ((jb.kept dz).kept gg) BL (by omega) Xa cP Xc (by omega) hw (by omega)) ?_));rintro v5 H5 ⟨h5,lS,iM⟩;refine ab [0,8,9,10] ?_;refine aX (ah [0,8,9,10] rfl ?_);refine aA rfl (aF rfl rfl ⟨by omega,by omega⟩ (aa 1 rfl (au ?_)));exact⟨k+1,T.pivot k j,by omega,ar,h5,lS,Xb,(fD.trans (dz.trans gg).le).trans iM,by omega⟩
    have hb:T.A k j=0:=vD (by simpa using hb);refine az (ah [0,2,8,9,10,24,25] rfl ?_);refine aA rfl (aF rfl rfl ⟨by omega,by omega⟩ (aa 1 rfl (au ?_)));exact⟨j+1,by omega,ar,dz.trans gg,by omega,fun i hi=>by by_cases e:i=j;(rw[e];exact hb);exact sq i (by omega)⟩
   have hb:L.u≤j:=by simpa using hb
   obtain rfl:j=L.u:=by omega
   refine aX (ah [0,8,9,10] rfl ?_);refine aA rfl (aF rfl rfl ⟨by omega,by omega⟩ (aa 1 rfl (au ?_)));exact⟨k+1,T,by omega,ar,h3,jb.kept dz,W0 k T GH BL (.inr sq),fD.trans dz.le,by omega⟩
 ·
  have hb:T0.m≤k:=by simpa using hb
  obtain rfl:k=T0.m:=by omega
  refine aX ?_;refine⟨.inl rfl,_,.nil,?_⟩;exact⟨T,GH,h1,jb,fD⟩
end Go.aq
