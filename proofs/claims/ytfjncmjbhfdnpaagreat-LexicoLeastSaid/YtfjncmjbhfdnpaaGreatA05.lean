/- Part 5 of the proof: Num3, Bd, TDat, Tab1, TDat2, Tab2, Tab3, TDat3, Tab4. -/
import Derived.Test.YtfjncmjbhfdnpaaGreatA04
set_option linter.unusedVariables false
namespace Go.au
open Go.Proofs Num Lp
def ib{α:Type}(P:Heap→List Value→α→Prop)(H:Heap)(vs:List Value):Option α→Prop
 | some a=>P H vs a
 | none=>True
theorem ib.up{α:Type}{P:Heap→List Value→α→Prop}(up:Up P):Up (ib P):=fun H H' vs a hl h=>by
 cases a with
 | none=>trivial
 | some a=>exact up H H' vs a hl h
def fill{α:Type}(l:List α)(k:Nat):List (Option α):=(l.take k).map some++List.replicate (l.length-k) none
section
variable {α:Type} {l:List α} {k:Nat}
theorem ny(h:k≤l.length):(fill l k).length=l.length:=by simp[fill];omega
theorem afG:fill l 0=List.replicate l.length none:=by simp[fill]
theorem y7{a:α}(h:l[k]? = some a):(fill l k).set k (some a)=fill l (k+1):=by
 have hk:=(List.getElem?_eq_some_iff.1 h).1
 apply List.ext_getElem?
 intro i
 by_cases e:i=k
 ·subst e
  rw[List.getElem?_set_self (by rw[ny (by omega)];omega)]
  unfold fill
  rw[List.getElem?_append_left (by simp;omega),List.getElem?_map,List.getElem?_take,if_pos (by omega),h];rfl
 ·rw[List.getElem?_set_ne (fun e'=>e e'.symm)]
  unfold fill
  by_cases h1:i<k
  ·rw[List.getElem?_append_left (by simp;omega),List.getElem?_append_left (by simp;omega),List.getElem?_map,List.getElem?_map,List.getElem?_take,List.getElem?_take,if_pos h1,if_pos (by omega)]
  ·rw[List.getElem?_append_right (by simp;omega),List.getElem?_append_right (by simp;omega),List.getElem?_replicate,List.getElem?_replicate]
   simp only[List.length_map,List.length_take]
   by_cases h2:i<l.length
   ·rw[if_pos (by omega),if_pos (by omega)]
   ·rw[if_neg (by omega),if_neg (by omega)]
theorem afH:fill l l.length=l.map some:=by simp[fill]
theorem DQ{P:Heap→List Value→α→Prop}{H:Heap}{sz:Nat}{xs:List Value}(h:bC (ib P H) sz xs (fill l l.length)):bC (P H) sz xs l:=by
 rw[afH]at h
 refine⟨by simpa using h.len,fun i a ha=> ?_⟩
 exact h.at_ i (some a) (by rw[List.getElem?_map,ha];rfl)
end
theorem Bu{α:Type}{P:Heap→List Value→α→Prop}{H:Heap}{zs:List Value}{sz:Nat}(hz:zs.length=sz)(l:List α):bC (ib P H) sz (cg zs (l.length*sz)) (fill l 0):=by
 rw[afG]
 exact Gn (P:=ib P H) (a:=none) hz trivial _
theorem jh:Up bR:=bR.up
def bN(N:Nat)(H:Heap)(vs:List Value)(q:Rat):Prop:=cn H (.agg vs.toArray) q N
theorem dI(N:Nat):Up (bN N):=fun _ _ _ _ hl h=>cn.le h hl
def bZ(H:Heap)(vs:List Value)(q:Rat):Prop:=bJ H (.agg vs.toArray) q
theorem dY:Up bZ:=fun _ _ _ _ hl h=>bJ.le h hl
theorem y8{vs:List Value}{a b c:Value}(h:Value.agg vs.toArray = .agg #[a,b,c]):vs = [a,b,c]:=by
 simp only[Value.agg.injEq]at h
 have:=congrArg Array.toList h
 simpa using this
theorem bN.cells{N:Nat}{H:Heap}{vs:List Value}{q:Rat}(h:bN N H vs q):∃f A m c A' m' c',vs = [.bool f,.slice A m c,.slice A' m' c']:=by
 obtain⟨f,u,w,l1,l2,h1,⟨A,c,rfl,_,_⟩,⟨A',c',rfl,_,_⟩,_⟩:=h
 exact⟨f,A,_,c,A',_,c',y8 h1⟩
theorem bZ.rat{H:Heap}{vs:List Value}{q:Rat}{N:Nat}(h:bZ H vs q)(hs:aO q≤N):bN N H vs q:=cn.mono (bJ.raw h) hs
theorem bR.cells{H:Heap}{vs:List Value}{q:Rat}(h:bR H vs q):∃n d b,vs = [.int .i64 n,.int .i64 d,.pointer b]:=by
 obtain⟨n,d,b,h,_⟩:=h;exact⟨n,d,b,h⟩
theorem afI(H:Heap)(g:Nat)(xs vs:List Value)(s e k sz:Nat):ins (ins H g ⟨xs,s,e,true⟩) g {(⟨xs,s,e,true⟩:Ent)with xs:=aL xs (0+k*sz) vs}=ins H g ⟨aL xs (k*sz) vs,s,e,true⟩:=by
 rw[qk,Nat.zero_add]
theorem dS{H:Heap}{g:Nat}{xs:List Value}{s e:Nat}{b:Bool}(h:H g=some ⟨xs,s,e,b⟩):Rd H (some ⟨g,0,none⟩) xs:=fun i v hv=>⟨_,rfl,by simp[cell,iN,h,hv]⟩
theorem tH{q:Rat}(h:gZ q=0):q=0:=by
 unfold gZ at h
 split at h
 ·omega
 ·split at h
  ·assumption
  ·omega
theorem W1:aO 0=1:=by
 unfold aO
 show max (an 0).length (an 1).length=1
 rw[qv,uZ];rfl
theorem afJ{f g:Nat→Rat}{s n:Nat}(hf:∀k,k<n→aO (f k)≤s∧aO (g k)≤s):∀k,k≤n→aO (bo k (fun j=>f j*g j))≤k*(2*s+1)+1:=by
 intro k
 induction k with
 | zero=>intro _;rw[Bf,W1];omega
 | succ k ih=>
  intro hk
  have h1:=ih (by omega)
  have h2:=vc (f k) (g k)
  have h3:=Ws (bo k (fun j=>f j*g j)) (f k*g k)
  have h4:=hf k (by omega)
  rw[fW,Nat.add_mul]
  omega
theorem W2{l:List Rat}{s:Nat}(h:∀q,q∈l→aO q≤s){k:Nat}(hk:k<l.length):aO (fn l k)≤s:=by
 rw[kT (List.getElem?_eq_getElem hk)];exact h _ (List.getElem_mem hk)
def afK(H:Heap)(l:List Rat)(v:Value)(H':Heap):Prop:=∃g xs,H g=none∧v = .slice (some ⟨g,0,none⟩) l.length l.length∧H'=ins H g ⟨xs,l.length*3,90,true⟩∧∀K:Heap,bC (bR K) 3 xs l
def P4{α:Type}(P:Heap→List Value→α→Prop)(sz:Nat)(H:Heap)(l:List α)(v:Value)(H':Heap):Prop:=Heap.le H H'∧aR P sz H' v l
theorem afL{H:Heap}{n:Nat}(hn:(n:Int)≤8796093022208):
 Fn Tryz.prog 56 #[.int .i64 (n:Int)] H (afK H (List.replicate n 0)):=by
 refine a7 (args:=[_]) Tryz.func56 rfl rfl Tryz.ntmps56 rfl rfl fun w0=> ?_;refine aj [0] rfl ?_;refine ag (ab 1 rfl (ae [0] ?_));refine ag (ab 1 rfl (gF Tryz.underlying85 fg rfl rfl rfl (by omega) (by omega) (by omega) (by omega) ?_));intro g hg;rw[show ((n:Int)).toNat=n from by omega]
 have hz:∀K:Heap,bC (ib bR K) 3 (cg [.int .i64 0,.int .i64 0,.pointer none] (n*3)) (fill (List.replicate n (0:Rat)) 0):=fun K=>by have:=Bu (P:=bR) (H:=K) (zs:=[.int .i64 0,.int .i64 0,.pointer none]) rfl (List.replicate n (0:Rat));rwa [List.length_replicate]at this
 refine ab 1 rfl (ae [3] ?_);refine ao (ag (ab 3 rfl (ae [3,8,9] ?_)));refine aF (gX (fun(k:Nat)(xs:List Value)=>n-k) (fun(k:Nat)(xs:List Value)=>put (put (put (emp) 3 (.val (.slice (some ⟨g,0,none⟩) n n))) 8 (.val (.int .i64 (n:Int)))) 9 (.val (.int .i64 (k:Int)))) (fun(k:Nat)(xs:List Value) H'=>H'=ins H g ⟨xs,n*3,90,true⟩∧k≤n∧∀K:Heap,bC (ib bR K) 3 xs (fill (List.replicate n (0:Rat)) k)) 0 _ (⟨rfl,Nat.zero_le _,hz⟩) ar ?_);rintro k xs H1 ⟨rfl,hk,he⟩;have nz:=ny (l:=List.replicate n (0:Rat)) (k:=k) (by simpa using hk);have cP:=(he H).len;rw[nz,List.length_replicate]at cP;refine ag (ab 1 rfl (ae [3,8,9,10] ?_));refine ao (aC rfl (fun hb=> ?_) (fun hb=> ?_))
 ·
  have hb:k<n:=by simpa using hb
  refine aA (aj [3,8,9] rfl ?_);refine ao (aF (ag (ab 2 rfl (ae [3,4,8,9] ?_))));refine aB rfl (ab 2 rfl (aE rfl rfl (wR) ?_));rintro v1 H1 ⟨e1,rfl⟩;rw[e1];obtain⟨ti,ak,al⟩:=cI;refine cQ (.inl rfl) ah rfl rfl rfl (by omega) (by omega) (bD _ _ _) rfl (by show 0+n*3≤xs.length;omega) ak al (fun _=>rfl) rfl rfl rfl fun _=> ?_;refine aw (aj [3,8,9] rfl ?_);refine aB rfl (aG rfl rfl ⟨by omega,by omega⟩ (ab 1 rfl (aw ?_)));exact⟨k+1,_,by omega,ar,afI H g xs _ _ _ k 3,by omega,fun K=>by rw[←y7 (a:=(0:Rat)) (by rw[List.getElem?_replicate,if_pos hb])];exact(he K).set (by rw[nz,List.length_replicate];exact hb) (wQ K (n:=0) (by decide) (by decide)) rfl⟩
 ·
  have hb:n≤k:=by simpa using hb
  obtain rfl:k=n:=by omega
  refine aV (aj [3] rfl ?_);refine ag (ab 2 rfl (ae [2] ?_));refine aD ⟨.inr rfl,_,.tmp rfl (.nil),?_⟩;refine⟨g,xs,hg,by rw[List.length_replicate];rfl,by rw[List.length_replicate],fun K=>DQ (l:=List.replicate k (0:Rat)) (by rw[List.length_replicate];exact he K)⟩
theorem W3{H:Heap}{v:Value}{l:List Rat}{N:Nat}(hv:aR (bN N) 3 H v l)(hN:(N:Int)≤1099511627776)(hl:(l.length:Int)≤1099511627776):
 Fn Tryz.prog 57 #[v] H (P4 bR 3 H l):=by
 obtain⟨A,c,ys,rfl,hc,hr,iw⟩:=hv;refine a7 (args:=[_]) Tryz.func57 rfl rfl Tryz.ntmps57 rfl rfl fun w0=> ?_;refine aj [0] rfl ?_;refine ag (ab 1 rfl (ae [0] ?_));refine ag (ab 2 rfl (gF Tryz.underlying85 fg rfl rfl rfl (by omega) (by omega) (by omega) (by omega) ?_));intro g hg;rw[show ((l.length:Int)).toNat=l.length from by omega];have hz:bC (ib bR (rem (ins H g ⟨cg [.int .i64 0,.int .i64 0,.pointer none] (l.length*3),l.length*3,90,true⟩) [g])) 3 (cg [.int .i64 0,.int .i64 0,.pointer none] (l.length*3)) (fill l 0):=Bu (sz:=3) (by rfl) l;refine ab 1 rfl (ae [0,3] ?_);refine ao (ag (ab 3 rfl (ae [3,9,10,11] ?_)));refine aF (gX (fun(k:Nat)(xs:List Value)=>l.length-k) (fun(k:Nat)(xs:List Value)=>put (put (put (put (emp) 3 (.val (.slice (some ⟨g,0,none⟩) l.length l.length))) 9 (.val (.slice A l.length c))) 10 (.val (.int .i64 (l.length:Int)))) 11 (.val (.int .i64 (k:Int)))) (fun(k:Nat)(xs:List Value) H'=>Heap.le H (rem H' [g])∧H' g=some ⟨xs,l.length*3,90,true⟩∧k≤l.length∧bC (ib bR (rem H' [g])) 3 xs (fill l k)) 0 _ (⟨by rw[rN _ hg,tt];exact .refl _,bD _ _ _,Nat.zero_le _,hz⟩) ar ?_);rintro k xs H1 ⟨hle,pa,hk,he⟩;have nz:=ny (l:=l) (k:=k) hk;have cP:=he.len
 rw[nz]at cP;have pb:=hle.trans (bE H1 [g]);refine ag (ab 1 rfl (ae [3,9,10,11,12] ?_));refine ao (aC rfl (fun hb=> ?_) (fun hb=> ?_))
 ·
  have hb:k<l.length:=by simpa using hb
  obtain⟨q,jN⟩:∃q,l[k]? = some q:=⟨_,List.getElem?_eq_getElem hb⟩;obtain⟨vs,iC,GB,P5⟩:=iw.get jN;obtain⟨f,A1,m1,c1,A2,m2,c2,rfl⟩:=GB.cells;have P6:cn (rem H1 [g]) _ q N:=cn.le GB hle;refine aA (aj [3,9,10,11] rfl ?_);refine ao (aF (ag (ab 1 rfl (ck (vs:=[.bool f,.slice A1 m1 c1,.slice A2 m2 c2]) ah rfl rfl rfl rfl (hr.le pb) rfl (by decide) P5 (by omega) (by omega) fun _=>(bt bY rfl (vr 1 ?_))))));obtain⟨ti,ak,al⟩:=aY;refine aH (.inl ⟨rfl,rfl⟩) rfl rfl rfl ak al rfl rfl rfl (ae [3,4,5,9,10,11] ?_);refine aB rfl (ab 3 rfl (aE rfl rfl (Fn.frame (gs:=[g]) (fun q hq=>by simp only[List.mem_singleton]at hq;subst hq;rw[pa];simp) (PE P6 hN)) ?_));rintro v2 H2 ⟨⟨dP,PF,rfl,bU⟩,pT⟩;obtain⟨n2,d2,b2,rfl,_⟩:=id bU;have ed:=(pT g (List.mem_singleton.2 rfl)).trans pa;obtain⟨ti,ak,al⟩:=cI;refine cQ (.inl rfl) ah rfl rfl rfl (by omega) (by omega) (ed) rfl (by show 0+l.length*3≤xs.length;omega) ak al (fun _=>rfl) rfl rfl rfl fun _=> ?_;refine aw (aj [3,9,10,11] rfl ?_);refine aB rfl (aG rfl rfl ⟨by omega,by omega⟩ (ab 1 rfl (aw ?_)));refine⟨k+1,aL xs (k*3) [.int .i64 n2,.int .i64 d2,.pointer b2],by omega,ar,?_,?_,by omega,?_⟩
  ·rw[cF _ (List.mem_singleton.2 rfl)];exact hle.trans dP
  ·rw[bD,Nat.zero_add];rfl
  ·
   rw[cF _ (List.mem_singleton.2 rfl),←y7 jN];exact(he.mono fun vs a=>ib.up jh _ _ vs a dP).set (by rw[nz];exact hb) bU rfl
 ·
  have hb:l.length≤k:=by simpa using hb
  obtain rfl:k=l.length:=by omega
  refine aV (aj [3] rfl ?_);refine ag (ab 2 rfl (ae [2] ?_));refine aD ⟨.inr rfl,_,.tmp rfl (.nil),?_⟩;exact⟨hle.trans (bE _ _),some ⟨g,0,none⟩,l.length,xs,rfl,Nat.le_refl _,dS pa,(DQ he).mono fun vs a=>jh _ _ vs a (bE _ _)⟩
theorem W4{H:Heap}{v:Value}{l:List Rat}(hv:aR bR 3 H v l)(hN:∀q,q∈l→(aO q:Int)≤1099511627776)(hl:(l.length:Int)≤1099511627776):
 Fn Tryz.prog 129 #[v] H (P4 bZ 3 H l):=by
 obtain⟨A,c,ys,rfl,hc,hr,iw⟩:=hv;refine a7 (args:=[_]) Tryz.func129 rfl rfl Tryz.ntmps129 rfl rfl fun w0=> ?_;refine aj [0] rfl ?_;refine ag (ab 1 rfl (ae [0] ?_));refine ag (ab 2 rfl (gF Tryz.underlying26 bY rfl rfl rfl (by omega) (by omega) (by omega) (by omega) ?_));intro g hg;rw[show ((l.length:Int)).toNat=l.length from by omega];have hz:bC (ib bZ (rem (ins H g ⟨cg [.bool false,.slice none 0 0,.slice none 0 0] (l.length*3),l.length*3,31,true⟩) [g])) 3 (cg [.bool false,.slice none 0 0,.slice none 0 0] (l.length*3)) (fill l 0):=Bu (sz:=3) (by rfl) l;refine ab 1 rfl (ae [0,3] ?_);refine ao (ag (ab 3 rfl (ae [3,9,10,11] ?_)));refine aF (gX (fun(k:Nat)(xs:List Value)=>l.length-k) (fun(k:Nat)(xs:List Value)=>put (put (put (put (emp) 3 (.val (.slice (some ⟨g,0,none⟩) l.length l.length))) 9 (.val (.slice A l.length c))) 10 (.val (.int .i64 (l.length:Int)))) 11 (.val (.int .i64 (k:Int)))) (fun(k:Nat)(xs:List Value) H'=>Heap.le H (rem H' [g])∧H' g=some ⟨xs,l.length*3,31,true⟩∧k≤l.length∧bC (ib bZ (rem H' [g])) 3 xs (fill l k)) 0 _ (⟨by rw[rN _ hg,tt];exact .refl _,bD _ _ _,Nat.zero_le _,hz⟩) ar ?_);rintro k xs H1 ⟨hle,pa,hk,he⟩;have nz:=ny (l:=l) (k:=k) hk
 have cP:=he.len;rw[nz]at cP;have pb:=hle.trans (bE H1 [g]);refine ag (ab 1 rfl (ae [3,9,10,11,12] ?_));refine ao (aC rfl (fun hb=> ?_) (fun hb=> ?_))
 ·
  have hb:k<l.length:=by simpa using hb
  obtain⟨q,jN⟩:∃q,l[k]? = some q:=⟨_,List.getElem?_eq_getElem hb⟩;obtain⟨vs,iC,GB,P5⟩:=iw.get jN;obtain⟨n1,d1,b1,rfl⟩:=GB.cells;have P6:=GB.le hle;refine aA (aj [3,9,10,11] rfl ?_);refine ao (aF (ag (ab 1 rfl (ck (vs:=[.int .i64 n1,.int .i64 d1,.pointer b1]) ah rfl rfl rfl rfl (hr.le pb) rfl (by decide) P5 (by omega) (by omega) fun _=>(bt fg rfl (vr 1 ?_))))));obtain⟨ti,ak,al⟩:=cI;refine aH (.inl ⟨rfl,rfl⟩) rfl rfl rfl ak al rfl rfl rfl (ae [3,4,5,9,10,11] ?_);refine aB rfl (ab 3 rfl (aE rfl rfl (Fn.frame (gs:=[g]) (fun q hq=>by simp only[List.mem_singleton]at hq;subst hq;rw[pa];simp) (Wu P6 (hN q (List.mem_of_getElem? jN)))) ?_));rintro v2 H2 ⟨⟨dP,bU⟩,pT⟩;obtain⟨u2,w2,rfl,fQ,lT⟩:=id bU;obtain⟨A2,c2,rfl,nu,mz⟩:=id fQ;obtain⟨A3,c3,rfl,u0,qA⟩:=id lT;have ed:=(pT g (List.mem_singleton.2 rfl)).trans pa;obtain⟨ti,ak,al⟩:=aY;refine cQ (.inl rfl) ah rfl rfl rfl (by omega) (by omega) (ed) rfl (by show 0+l.length*3≤xs.length;omega) ak al (fun _=>rfl) rfl rfl rfl fun _=> ?_;refine aw (aj [3,9,10,11] rfl ?_);refine aB rfl (aG rfl rfl ⟨by omega,by omega⟩ (ab 1 rfl (aw ?_)))
  refine⟨k+1,aL xs (k*3) [.bool (decide (q.num<0)),.slice A2 (an q.num.natAbs).length c2,.slice A3 (an q.den).length c3],by omega,ar,?_,?_,by omega,?_⟩
  ·rw[cF _ (List.mem_singleton.2 rfl)];exact hle.trans dP
  ·rw[bD,Nat.zero_add];rfl
  ·
   rw[cF _ (List.mem_singleton.2 rfl),←y7 jN];exact(he.mono fun vs a=>ib.up dY _ _ vs a dP).set (by rw[nz];exact hb) (show bZ _ _ q from bU) rfl
 ·
  have hb:l.length≤k:=by simpa using hb
  obtain rfl:k=l.length:=by omega
  refine aV (aj [3] rfl ?_);refine ag (ab 2 rfl (ae [2] ?_));refine aD ⟨.inr rfl,_,.tmp rfl (.nil),?_⟩;exact⟨hle.trans (bE _ _),some ⟨g,0,none⟩,l.length,xs,rfl,Nat.le_refl _,dS pa,(DQ he).mono fun vs a=>dY _ _ vs a (bE _ _)⟩
end Go.au
namespace Lp
namespace aq
def rS(T:aq)(j:Nat):Prop:=∃k,k<T.m∧T.B k=j
section
variable {T S:aq}
theorem W5(hT:T.WF)(h:j5 T S){i j:Nat}(hi:i<S.m)(hj:j≤T.n):S.A i j=bo T.m (fun k=>S.A i (T.B k)*T.A k j):=by
 have h1:=(h.nR _).2 (yW hT j hj) i hi
 rw[h.n,DK T hT.lt j hj]at h1
 grind
theorem afM(hT:T.WF)(h:j5 T S){j:Nat}(hj:j≤T.n):S.c j=T.c j+bo T.m (fun k=>S.c (T.B k)*T.A k j):=by
 have h1:=h.cost _ (yW hT j hj)
 rw[DL hT j hj]at h1
 unfold cost at h1
 rw[h.n,DK T hT.lt j hj]at h1
 grind
theorem exchange(hT:T.WF)(hS:S.WF)(h:j5 T S){i0:Nat}(hi:i0<S.m)(hn:¬T.rS (S.B i0)):∃r,r<T.m∧T.A r (S.B i0)≠0∧¬S.rS (T.B r):=by
 false_or_by_contra
 rename_i hc
 have bI:=hS.lt i0 hi
 have h1:=W5 hT h hi (j:=S.B i0) (by rw[h.n]at bI;omega)
 rw[hS.unit i0 i0 hi hi,if_pos rfl,mG]at h1
 ·grind
 ·intro k hk
  by_cases e:T.A k (S.B i0)=0
  ·rw[e];grind
  ·by_cases hb:S.rS (T.B k)
   ·obtain⟨i',fX,e'⟩:=hb
    have aZ:i0≠i':=fun e0=>hn ⟨k,hk,by rw[e0];exact e'.symm⟩
    rw[←e',hS.unit i' i0 fX hi,if_neg aZ];grind
   ·exact absurd ⟨k,hk,e,hb⟩ hc
open Classical in
noncomputable def qG(T S:aq):Nat:=(List.range S.m).countP fun i=>decide (¬T.rS (S.B i))
theorem afN{r s j:Nat}(h:T.rS j)(hj:j≠T.B r):(T.pivot r s).rS j:=by
 obtain⟨k,hk,e⟩:=h
 refine⟨k,hk,?_⟩
 show (if k=r then s else T.B k)=j
 rw[if_neg (fun e'=>hj (by rw[←e,e'])),e]
theorem afO{r i0:Nat}(hr:r<T.m)(hi:i0<S.m)(hn:¬T.rS (S.B i0))(hb:¬S.rS (T.B r)):qG (T.pivot r (S.B i0)) S<qG T S:=by
 unfold qG
 refine WD _ _ _ (fun i m6 hd=> ?_) ⟨i0,List.mem_range.2 hi,?_,?_⟩
 ·simp only[decide_eq_true_eq]at hd⊢
  exact fun ll=>hd (afN ll (fun e=>hb ⟨i,List.mem_range.1 m6,e⟩))
 ·simp only[decide_eq_true_eq];exact hn
 ·simp only[decide_eq_false_iff_not,Classical.not_not]
  exact⟨r,hr,by show (if r=r then S.B i0 else T.B r)=_;rw[if_pos rfl]⟩
def dV(D X:Nat)(q:Rat):Prop:=∃z:Int,q*(D:Rat)=(z:Rat)∧z.natAbs≤X
def lY(n j k z:Nat):Nat:=if j=n then k else z
structure BdD(D0 f e D:Nat)(T:aq):Prop where
 pos:0<D
 le:D≤2^e
 A:∀i,i<T.m→∀j,j≤T.n→dV (D*lY T.n j D0 1) (2^(e+lY T.n j f 0)) (T.A i j)
 c:∀j,j≤T.n→dV (D*lY T.n j D0 1) (2^(e+lY T.n j f 0)) (T.c j)
def Bd(D0 f e:Nat)(T:aq):Prop:=∃D:Nat,BdD D0 f e D T
theorem DR{n j k z:Nat}(h:j<n):lY n j k z=z:=if_neg (by omega)
theorem y9{n k z:Nat}:lY n n k z=k:=if_pos rfl
theorem dV.mono{D X Y:Nat}{q:Rat}(h:dV D X q)(hl:X≤Y):dV D Y q:=by
 obtain⟨z,h1,h2⟩:=h
 exact⟨z,h1,Nat.le_trans h2 hl⟩
theorem Bd.mono{D0 f e e':Nat}(h:Bd D0 f e T)(hl:e≤e'):Bd D0 f e' T:=by
 obtain⟨D,h1,h2,h3,h4⟩:=h
 have hp:∀k,2^(e+k)≤2^(e'+k):=fun k=>Nat.pow_le_pow_right (by decide) (by omega)
 exact⟨D,h1,Nat.le_trans h2 (hp 0),fun i hi j hj=>(h3 i hi j hj).mono (hp _),fun j hj=>(h4 j hj).mono (hp _)⟩
theorem natAbs_sub_le(a b:Int):(a-b).natAbs≤a.natAbs+b.natAbs:=by omega
theorem P7{D K:Nat}{N z1 z2 z3:Int}{a b c d:Rat}{X Y:Nat}(hD:(D:Rat)≠0)(hN:(N:Rat)≠0)(h:d*(D:Rat)=(N:Rat))(h1:a*((D*K:Nat):Rat)=(z1:Rat))(h2:b*(D:Rat)=(z2:Rat))(h3:c*((D*K:Nat):Rat)=(z3:Rat))
  (k1:z1.natAbs≤Y) (k2:z2.natAbs≤X) (k3:z3.natAbs≤Y) (k:N.natAbs≤X):dV (D*N.natAbs*K) (2*(X*Y)) (a-b*(c/d)):=by
 refine⟨N.sign*(z1*N-z2*z3),?_,?_⟩
 ·have e1:((D*N.natAbs*K:Nat):Rat)=(D:Rat)*((N.sign:Rat)*(N:Rat))*(K:Rat):=by
   have lX:(N.natAbs:Int)=N.sign*N:=by
    rcases Int.lt_trichotomy N 0 with h | h | h
    ·rw[Int.sign_eq_neg_one_of_neg h];omega
    ·subst h;rfl
    ·rw[Int.sign_eq_one_of_pos h];omega
   have:((N.natAbs:Int):Rat)=((N.sign*N:Int):Rat):=by rw[lX]
   rw[Rat.natCast_mul,Rat.natCast_mul]
   have h0:((N.natAbs:Nat):Rat)=((N.natAbs:Int):Rat):=rfl
   rw[h0,this,Rat.intCast_mul]
  have hd:d≠0:=fun e=>by rw[e]at h;grind
  rw[Rat.natCast_mul]at h1 h3
  rw[e1,Rat.intCast_mul,Rat.intCast_sub,Rat.intCast_mul,Rat.intCast_mul,←h1,←h2,←h3,←h]
  grind
 ·have hs:N.sign.natAbs≤1:=by
   rw[Int.natAbs_sign];split <;> omega
  rw[Int.natAbs_mul]
  have h4:=natAbs_sub_le (z1*N) (z2*z3)
  rw[Int.natAbs_mul,Int.natAbs_mul]at h4
  have h5:z1.natAbs*N.natAbs≤X*Y:=by rw[Nat.mul_comm];exact Nat.mul_le_mul k k1
  have h6:z2.natAbs*z3.natAbs≤X*Y:=Nat.mul_le_mul k2 k3
  have h7:N.sign.natAbs*(z1*N-z2*z3).natAbs≤1*(z1*N-z2*z3).natAbs:=Nat.mul_le_mul_right _ hs
  omega
theorem P8(e f:Nat):2*(2^e*2^(e+f))=2^(2*e+1+f):=by
 rw[show 2*e+1+f=(e+(e+f))+1 by omega,Nat.pow_succ,Nat.pow_add 2 e (e+f),Nat.mul_comm]
theorem Bd.pivot{D0 f e r s:Nat}(h:Bd D0 f e T)(hr:r<T.m)(hs:s<T.n)(hp:T.A r s≠0):Bd D0 f (2*e+1) (T.pivot r s):=by
 obtain⟨D,h1,h2,h3,h4⟩:=h
 have one:∀{q:Rat},dV (D*lY T.n s D0 1) (2^(e+lY T.n s f 0)) q→dV D (2^e) q:=fun h=>by rwa [DR hs,DR hs,Nat.mul_one]at h
 obtain⟨N,hN,Ln⟩:=one (h3 r hr s (by omega))
 have hD:(D:Rat)≠0:=fun e=>by
  have:D=0:=by exact_mod_cast e
  omega
 have DS:(N:Rat)≠0:=by
  rw[←hN]
  intro e0
  rcases Rat.mul_eq_zero.1 e0 with h | h
  ·exact hp h
  ·exact hD h
 have hNz:N≠0:=fun e=>DS (by rw[e];rfl)
 refine⟨D*N.natAbs,Nat.mul_pos h1 (by omega),?_,fun i hi j hj=> ?_,fun j hj=> ?_⟩
 ·have:=P8 e 0
  rw[Nat.add_zero,Nat.add_zero]at this
  rw[←this]
  have:=Nat.mul_le_mul h2 Ln
  omega
 ·show dV (D*N.natAbs*lY T.n j D0 1) (2^(2*e+1+lY T.n j f 0)) _
  rw[←P8]
  obtain⟨z3,k3,l3⟩:=h3 r hr j hj
  show dV _ _ (if i=r then T.A r j/T.A r s else T.A i j-T.A i s*(T.A r j/T.A r s))
  by_cases e':i=r
  ·rw[if_pos e']
   have e3:(-1:Rat)*(D:Rat)=((-(D:Int):Int):Rat):=by
    rw[Rat.intCast_neg]
    have:((D:Int):Rat)=(D:Rat):=rfl
    rw[this];grind
   have:=P7 (z1:=0) (a:=0) (z2:= -(D:Int)) (b:= -1) hD DS hN (by grind) e3 k3 (by omega) (by omega) l3 Ln
   have e2:(0:Rat) - -1*(T.A r j/T.A r s)=T.A r j/T.A r s:=by grind
   rwa [e2]at this
  ·rw[if_neg e']
   obtain⟨z1,k1,l1⟩:=h3 i hi j hj
   obtain⟨z2,k2,l2⟩:=one (h3 i hi s (by omega))
   exact P7 hD DS hN k1 k2 k3 l1 l2 l3 Ln
 ·show dV (D*N.natAbs*lY T.n j D0 1) (2^(2*e+1+lY T.n j f 0)) _
  rw[←P8]
  obtain⟨z3,k3,l3⟩:=h3 r hr j hj
  obtain⟨z1,k1,l1⟩:=h4 j hj
  obtain⟨z2,k2,l2⟩:=one (h4 s (by omega))
  exact P7 hD DS hN k1 k2 k3 l1 l2 l3 Ln
theorem reach{D0 f:Nat}(hS:S.WF):∀(k e:Nat)(T:aq),T.WF→j5 T S→Bd D0 f e T→qG T S≤k→∃T':aq,T'.WF∧j5 T' S∧(∀i,i<S.m→T'.rS (S.B i))∧Bd D0 f (2^k*(e+1)-1) T':=by
 intro k
 induction k with
 | zero=>
  intro e T hT h hb hc
  refine⟨T,hT,h,fun i hi=> ?_,by rw[Nat.pow_zero,Nat.one_mul];exact hb⟩
  false_or_by_contra
  rename_i hn
  have:0<qG T S:=by
   unfold qG
   exact List.countP_pos_iff.2 ⟨i,List.mem_range.2 hi,by simp only[decide_eq_true_eq];exact hn⟩
  omega
 | succ k ih=>
  intro e T hT h hb hc
  by_cases ha:∀i,i<S.m→T.rS (S.B i)
  ·refine⟨T,hT,h,ha,hb.mono ?_⟩
   have:1*(e+1)≤2^(k+1)*(e+1):=Nat.mul_le_mul_right _ Nat.one_le_two_pow
   omega
  ·obtain⟨i0,ha⟩:=Classical.not_forall.1 ha
   obtain⟨hi,hn⟩:=Classical.not_imp.1 ha
   obtain⟨r,hr,hp,uS⟩:=exchange hT hS h hi hn
   have bI:=hS.lt i0 hi
   rw[h.n]at bI
   obtain⟨T',h1,h2,h3,h4⟩:=ih (2*e+1) (T.pivot r (S.B i0)) (Bg hT hr bI hp) ((j5.pivot hr hp).symm.trans h) (hb.pivot hr bI hp) (by have:=afO hr hi hn uS;omega)
   refine⟨T',h1,h2,h3,?_⟩
   have e2:2^k*(2*e+1+1)=2^(k+1)*(e+1):=by
    rw[Nat.pow_succ,Nat.mul_assoc]
    congr 1
   rwa [e2]at h4
theorem afP{D0 f e k:Nat}(hT:T.WF)(hS:S.WF)(h:j5 T S)(hb:Bd D0 f e T)(hk:qG T S≤k):Bd D0 f (2^k*(e+1)-1) S:=by
 obtain⟨T',h1,h2,h3,D,hD,hX,hA,hC⟩:=reach hS k e T hT h hb hk
 have ll:∀i,i<S.m→∀k,k<T'.m→∀i',i'<S.m→T'.B k=S.B i→T'.A k (S.B i')=if i'=i then 1 else 0:=by
  intro i hi k hk i' fX e
  obtain⟨k',iK,e'⟩:=h3 i' fX
  rw[←e',h1.unit k' k iK hk]
  by_cases e0:i'=i
  ·rw[if_pos e0,if_pos (h1.inj hk iK (by rw[e,e',e0]))]
  ·rw[if_neg e0,if_neg (fun e1=>e0 (hS.inj fX hi (by rw[←e',←e,e1])))]
 refine⟨D,hD,hX,fun i hi j hj=> ?_,fun j hj=> ?_⟩
 ·obtain⟨k,hk,e⟩:=h3 i hi
  have h4:=W5 hS h2.symm (i:=k) (j:=j) hk hj
  rw[rP (k:=i) hi _ (fun i' fX aZ=>by rw[ll i hi k hk i' fX e,if_neg aZ];grind),ll i hi k hk i hi e,if_pos rfl]at h4
  have h5:=hA k hk j (by rw[←h2.n];exact hj)
  rw[h4,←h2.n]at h5
  have e6:1*S.A i j=S.A i j:=by grind
  rwa [e6]at h5
 ·have h4:=afM hS h2.symm (j:=j) hj
  rw[mG]at h4
  ·have h5:=hC j (by rw[←h2.n];exact hj)
   rw[h4,←h2.n]at h5
   have e6:S.c j+0=S.c j:=by grind
   rwa [e6]at h5
  ·intro i hi
   obtain⟨k,hk,e⟩:=h3 i hi
   rw[←e,h1.zero k hk];grind
theorem afQ(T S:aq):qG T S≤S.m:=by
 unfold qG
 exact Nat.le_trans List.countP_le_length (by rw[List.length_range];exact Nat.le_refl _)
theorem W6:∀(n:Nat)(l:List Nat),l.Nodup→(∀x,x∈l→x<n)→l.length≤n
 | 0,l,_,h=>by
  cases l with
  | nil=>exact Nat.le_refl _
  | cons x l=>exact absurd (h x (List.mem_cons_self ..)) (Nat.not_lt_zero _)
 | n+1,l,hd,h=>by
  have h1:=W6 n (l.erase n) (hd.erase n) fun x hx=>by
   have h2:=(hd.mem_erase_iff).1 hx
   have:=h x h2.2
   have:=h2.1
   omega
  have h2:l.length≤(l.erase n).length+1:=by
   rw[List.length_erase];split <;> omega
  omega
theorem P9{f:Nat→Nat}:∀{l:List Nat},l.Nodup→(∀x,x∈l→∀y,y∈l→f x=f y→x=y)→(l.map f).Nodup
 | [],_,_=>List.nodup_nil
 | x::l,h,hi=>by
  rw[List.nodup_cons]at h
  rw[List.map_cons,List.nodup_cons]
  refine⟨fun hm=> ?_,P9 h.2 fun y hy z hz=>hi y (List.mem_cons_of_mem _ hy) z (List.mem_cons_of_mem _ hz)⟩
  obtain⟨y,hy,e⟩:=List.mem_map.1 hm
  have:=hi y (List.mem_cons_of_mem _ hy) x (List.mem_cons_self ..) e
  exact h.1 (this▸hy)
open Classical in
theorem afR(hT:T.WF)(hS:S.WF)(h:j5 T S):qG T S+T.m≤T.n:=by
 unfold qG
 rw[List.countP_eq_length_filter]
 generalize hl:(List.range S.m).filter (fun i=>decide (¬T.rS (S.B i)))=l
 have za:∀i,i∈l→i<S.m∧¬T.rS (S.B i):=fun i hi=>by
  rw[←hl,List.mem_filter]at hi
  exact⟨List.mem_range.1 hi.1,of_decide_eq_true hi.2⟩
 have Qa:l.Nodup:=by rw[←hl];exact List.Pairwise.filter _ List.nodup_range
 have h1:=W6 T.n (l.map S.B++(List.range T.m).map T.B) ?_ ?_
 ·rwa [List.length_append,List.length_map,List.length_map,List.length_range]at h1
 ·rw[List.nodup_append]
  refine⟨P9 Qa fun x hx y hy e=>hS.inj (za x hx).1 (za y hy).1 e,P9 List.nodup_range fun x hx y hy e=>hT.inj (List.mem_range.1 hx) (List.mem_range.1 hy) e,fun a ha b hb e=> ?_⟩
  obtain⟨i,hi,rfl⟩:=List.mem_map.1 ha
  obtain⟨k,hk,rfl⟩:=List.mem_map.1 hb
  exact(za i hi).2 ⟨k,List.mem_range.1 hk,e.symm⟩
 ·intro x hx
  rcases List.mem_append.1 hx with hx | hx
  ·obtain⟨i,hi,rfl⟩:=List.mem_map.1 hx
   have:=hS.lt i (za i hi).1
   rw[←h.n];exact this
  ·obtain⟨i,hi,rfl⟩:=List.mem_map.1 hx
   exact hT.lt i (List.mem_range.1 hi)
theorem afS{D X:Nat}{q:Rat}(hD:0<D)(h:dV D X q):q.num.natAbs≤X∧q.den≤D:=by
 obtain⟨z,h1,h2⟩:=h
 have hD':(D:Rat)≠0:=fun e=>by
  have:D=0:=by exact_mod_cast e
  omega
 have e:mkRat z D=q:=by
  rw[Rat.mkRat_eq_div]
  grind
 obtain⟨k,hk,h3,h4⟩:=Rat.mkRat_num_den (n:=z) (d:=D) (by omega) (n':=q.num) (d':=q.den) (z':=q.den_nz) (c:=q.reduced) e
 refine⟨?_,?_⟩
 ·rw[h3,Int.natAbs_mul,Int.natAbs_natCast]at h2
  exact Nat.le_trans (Nat.le_mul_of_pos_right _ (by omega)) h2
 ·rw[h4]
  exact Nat.le_mul_of_pos_right _ (by omega)
def wt(q:Rat):Nat:=q.num.natAbs.log2+q.den.log2+2
theorem afT(q:Rat):q.num.natAbs≤2^wt q:=by
 have h1:=Nat.lt_log2_self (n:=q.num.natAbs)
 have h2:=Nat.pow_le_pow_right (n:=2) (by decide) (show q.num.natAbs.log2+1≤wt q by unfold wt;omega)
 omega
theorem afU(q:Rat):q.den≤2^wt q:=by
 have h1:=Nat.lt_log2_self (n:=q.den)
 have h2:=Nat.pow_le_pow_right (n:=2) (by decide) (show q.den.log2+1≤wt q by unfold wt;omega)
 omega
def cT:List Rat→Nat
 | []=>0
 | q::l=>wt q+cT l
def fR:List Rat→Nat
 | []=>1
 | q::l=>q.den*fR l
theorem GC(l:List Rat):0<fR l:=by
 induction l with
 | nil=>exact Nat.one_pos
 | cons q l ih=>exact Nat.mul_pos (Nat.pos_of_ne_zero q.den_nz) ih
theorem Bv(l:List Rat):fR l≤2^cT l:=by
 induction l with
 | nil=>exact Nat.le_refl _
 | cons q l ih=>
  simp only[fR,cT,Nat.pow_add]
  exact Nat.mul_le_mul (afU q) ih
theorem afV{l:List Rat}{q:Rat}(h:q∈l):∃k,fR l=q.den*k:=by
 induction l with
 | nil=>cases h
 | cons r l ih=>
  rcases List.mem_cons.1 h with rfl | h
  ·exact⟨_,rfl⟩
  ·obtain⟨k,hk⟩:=ih h
   exact⟨r.den*k,by simp only[fR,hk];rw[Nat.mul_left_comm]⟩
theorem afW{l:List Rat}{q:Rat}(h:q∈l):wt q≤cT l:=by
 induction l with
 | nil=>cases h
 | cons r l ih=>
  simp only[cT]
  rcases List.mem_cons.1 h with rfl | h
  ·omega
  ·have:=ih h;omega
theorem Lo{l:List Rat}{q:Rat}(h:q∈l):dV (fR l) (2^(2*cT l)) q:=by
 obtain⟨k,hk⟩:=afV h
 refine⟨q.num*k,?_,?_⟩
 ·rw[hk,Rat.natCast_mul,Rat.intCast_mul]
  have h1:q*(q.den:Rat)=(q.num:Rat):=by
   have hd:(q.den:Rat)≠0:=fun e=>q.den_nz (by exact_mod_cast e)
   have e:=Rat.mkRat_self q
   rw[Rat.mkRat_eq_div]at e
   grind
  have h2:((k:Int):Rat)=(k:Rat):=rfl
  rw[h2,←h1];grind
 ·rw[Int.natAbs_mul,Int.natAbs_natCast]
  have h1:=afT q
  have h2:=Nat.pow_le_pow_right (n:=2) (by decide) (afW h)
  have h3:k≤fR l:=by
   rw[hk];exact Nat.le_mul_of_pos_left _ (Nat.pos_of_ne_zero q.den_nz)
  have h4:=Bv l
  rw[Nat.two_mul,Nat.pow_add]
  exact Nat.mul_le_mul (Nat.le_trans h1 h2) (Nat.le_trans h3 h4)
theorem W7(l:List Rat)(z:Int)(hz:z.natAbs≤1):dV (fR l) (2^(2*cT l)) (z:Rat):=by
 refine⟨z*fR l,?_,?_⟩
 ·rw[Rat.intCast_mul];rfl
 ·rw[Int.natAbs_mul,Int.natAbs_natCast]
  have h1:z.natAbs*fR l≤1*fR l:=Nat.mul_le_mul_right _ hz
  have h2:=Bv l
  have h3:=Nat.pow_le_pow_right (n:=2) (by decide) (show cT l≤2*cT l by omega)
  omega
theorem dV.neg{D X:Nat}{q:Rat}(h:dV D X q):dV D X (-q):=by
 obtain⟨z,h1,h2⟩:=h
 exact⟨-z,by rw[Rat.intCast_neg,←h1];grind,by omega⟩
theorem dV.sub{D X Y:Nat}{q r:Rat}(h:dV D X q)(k:dV D Y r):dV D (X+Y) (q-r):=by
 obtain⟨z,h1,h2⟩:=h
 obtain⟨y,k1,k2⟩:=k
 exact⟨z-y,by rw[Rat.intCast_sub,←h1,←k1];grind,by omega⟩
theorem Bw(D X:Nat):dV D X 0:=⟨0,by grind,by simp⟩
theorem afX{D X:Nat}(m:Nat)(f:Nat→Rat)(h:∀i,i<m→dV D X (f i)):dV D (m*X) (bo m f):=by
 induction m with
 | zero=>rw[Bf];exact Bw _ _
 | succ m ih=>
  rw[fW,Nat.succ_mul]
  obtain⟨z,h1,h2⟩:=ih (fun i hi=>h i (by omega))
  obtain⟨y,k1,k2⟩:=h m (by omega)
  exact⟨z+y,by rw[Rat.intCast_add,←h1,←k1];grind,by omega⟩
end
end aq
end Lp
namespace Go.au
open Go.Proofs Num Lp
def aK(f:Nat→Rat)(n:Nat):List Rat:=(List.range n).map f
theorem bg(f:Nat→Rat)(n:Nat):(aK f n).length=n:=by simp[aK]
theorem dJ{f:Nat→Rat}{n j:Nat}(h:j<n):(aK f n)[j]? = some (f j):=by simp[aK,h]
theorem lz{f g:Nat→Rat}{n:Nat}(h:∀j,j<n→f j=g j):aK f n=aK g n:=by
 apply List.ext_getElem?
 intro j
 by_cases hj:j<n
 ·rw[dJ hj,dJ hj,h j hj]
 ·rw[List.getElem?_eq_none (by rw[bg];omega),List.getElem?_eq_none (by rw[bg];omega)]
theorem DT{f:Nat→Rat}{n j:Nat}(h:j<n):fn (aK f n) j=f j:=kT (dJ h)
def lZ(f g:Nat→Rat)(k:Nat)(j:Nat):Rat:=if j<k then f j else g j
theorem afY{f g:Nat→Rat}{n k:Nat}:(aK (lZ f g k) n).set k (f k)=aK (lZ f g (k+1)) n:=by
 apply List.ext_getElem?
 intro j
 by_cases hj:j<n
 ·by_cases e:j=k
  ·subst e
   rw[List.getElem?_set_self (by rw[bg];exact hj),dJ hj]
   simp[lZ]
  ·rw[List.getElem?_set_ne (fun e'=>e e'.symm),dJ hj,dJ hj]
   unfold lZ
   by_cases h:j<k
   ·rw[if_pos h,if_pos (by omega)]
   ·rw[if_neg h,if_neg (by omega)]
 ·rw[List.getElem?_eq_none (by rw[List.length_set,bg];omega),List.getElem?_eq_none (by rw[bg];omega)]
theorem W8{f g:Nat→Rat}{n k:Nat}(h:f k=g k):aK (lZ f g k) n=aK (lZ f g (k+1)) n:=lz fun j _=>by
 unfold lZ
 by_cases e:j=k
 ·subst e;rw[if_neg (by omega),if_pos (by omega),h]
 ·by_cases h':j<k
  ·rw[if_pos h',if_pos (by omega)]
  ·rw[if_neg h',if_neg (by omega)]
theorem Xa{f g:Nat→Rat}{n:Nat}:aK (lZ f g 0) n=aK g n:=lz fun j _=>by simp[lZ]
theorem Xb{f g:Nat→Rat}{n:Nat}:aK (lZ f g n) n=aK f n:=lz fun j hj=>by simp[lZ,hj]
def lA(K:Heap)(H:Heap)(g:Nat)(l:List Rat):Prop:=∃xs sz,H g=some ⟨xs,sz,90,true⟩∧bC (bR K) 3 xs l
theorem lA.le{K K' H H':Heap}{g:Nat}{l:List Rat}(h:lA K H g l)(hl:Heap.le K K')(hs:H' g=H g):lA K' H' g l:=by
 obtain⟨xs,sz,h1,h2⟩:=h
 exact⟨xs,sz,by rw[hs];exact h1,h2.mono fun vs a=>jh _ _ vs a hl⟩
theorem lA.rd{K H:Heap}{g:Nat}{l:List Rat}(h:lA K H g l){i:Nat}{q:Rat}(hq:l[i]? = some q):∃xs n d b,Rd H (some ⟨g,0,none⟩) xs∧bR K [.int .i64 n,.int .i64 d,.pointer b] q∧∀(j:Nat)(v:Value),[.int .i64 n,.int .i64 d,.pointer b][j]? = some v→xs[i*3+j]? = some v:=by
 obtain⟨xs,sz,h1,h2⟩:=h
 obtain⟨vs,_,h3,h4⟩:=h2.get hq
 obtain⟨n,d,b,rfl⟩:=h3.cells
 exact⟨xs,n,d,b,dS h1,h3,h4⟩
structure Kept(gs:List Nat)(H H':Heap):Prop where
 le:Heap.le (rem H gs) (rem H' gs)
 same:∀q,q∈gs→H' q=H q
structure fS(gs:List Nat)(g:Nat)(H H':Heap):Prop where
 le:Heap.le (rem H gs) (rem H' gs)
 same:∀q,q∈gs→q≠g→H' q=H q
theorem Kept.refl(gs:List Nat)(H:Heap):Kept gs H H:=⟨.refl _,fun _ _=>rfl⟩
theorem Kept.trans{gs:List Nat}{A B C:Heap}(h:Kept gs A B)(k:Kept gs B C):Kept gs A C:=⟨h.le.trans k.le,fun q hq=>(k.same q hq).trans (h.same q hq)⟩
theorem fS.trans{gs:List Nat}{g:Nat}{A B C:Heap}(h:fS gs g A B)(k:fS gs g B C):fS gs g A C:=⟨h.le.trans k.le,fun q hq aZ=>(k.same q hq aZ).trans (h.same q hq aZ)⟩
theorem Kept.iD{gs:List Nat}{H H':Heap}(h:Kept gs H H')(g:Nat):fS gs g H H':=⟨h.le,fun q hq _=>h.same q hq⟩
theorem fS.ins{gs:List Nat}{g:Nat}{H H':Heap}(h:fS gs g H H')(hg:g∈gs)(e:Ent):fS gs g H (ins H' g e):=
 ⟨by rw[cF _ hg];exact h.le,fun q hq aZ=>by rw[a6 _ _ aZ];exact h.same q hq aZ⟩
theorem Kept.of{gs:List Nat}{H H':Heap}{v:Value}{bF:Value→Heap→Prop}(h:yU gs bF H v H')(hl:∀v K,bF v K→Heap.le (rem H gs) K):Kept gs H H':=⟨hl _ _ h.post,h.same⟩
theorem Kept.ne{gs:List Nat}{H H':Heap}(h:Kept gs H H')(hn:∀q,q∈gs→H q≠none):∀q,q∈gs→H' q≠none:=fun q hq=>by rw[h.same q hq];exact hn q hq
structure Xc(gs:List Nat)(H:Heap)(q:Rat)(v:Value)(H':Heap):Prop where
 kept:Kept gs H H'
 le:Heap.le H H'
 val:∃n d b,v=N3 n d b∧bR (rem H' gs) [.int .i64 n,.int .i64 d,.pointer b] q
structure FrI(gs:List Nat)(H:Heap)(x:Value)(v:Value)(H':Heap):Prop where
 kept:Kept gs H H'
 le:Heap.le H H'
 val:v=x
theorem Fn.lB{P:Program}{f:FuncId}{args:Array Value}{H:Heap}{gs:List Nat}{q:Rat}(jM:∀g,g∈gs→H g≠none)(h:Fn P f args (rem H gs) (tu (rem H gs) q)):Fn P f args H (Xc gs H q):=
 (Fn.frame jM h).mono fun v H' hf=>by
  refine⟨.of hf fun v K hp=>hp.1,hf.le fun v K hp=>hp.1,?_⟩
  obtain⟨_,vs,rfl,hn⟩:=hf.post
  obtain⟨n,d,b,rfl⟩:=hn.cells
  exact⟨n,d,b,rfl,hn⟩
theorem Fn.l0{P:Program}{f:FuncId}{args:Array Value}{H:Heap}{gs:List Nat}{x:Value}(jM:∀g,g∈gs→H g≠none)(h:Fn P f args (rem H gs) (fun v H'=>Heap.le (rem H gs) H'∧v=x)):Fn P f args H (FrI gs H x):=
 (Fn.frame jM h).mono fun v H' hf=>⟨.of hf fun v K hp=>hp.1,hf.le fun v K hp=>hp.1,hf.post.2⟩
theorem lA.set{K H:Heap}{g:Nat}{f b:Nat→Rat}{n k:Nat}{xs:List Value}{sz:Nat}(h2:bC (bR K) 3 xs (aK (lZ f b k) n))(hk:k<n){vs:List Value}(hv:bR K vs (f k))(e:H g=some ⟨aL xs (k*3) vs,sz,90,true⟩):lA K H g (aK (lZ f b (k+1)) n):=by
 refine⟨_,_,e,?_⟩
 rw[←afY]
 exact h2.set (by rw[bg];exact hk) hv hv.len
end Go.au
namespace Go.au
open Go.Proofs Num Lp
theorem Xd{H:Heap}{gs:List Nat}{g gl gr:Nat}{ts:List Value}{Ar:Option Addr}{m cr:Nat}{qH:List Value}{row n c1 cl N:Nat}{a b:Nat→Rat}{fs:List Value}{f:Rat}
 (aZ:∀q,q∈gs→H q≠none) (hg:g∈gs) (wX:gl∈gs) (DU:gr∈gs) (za:gl≠gr) (zb:g≠gl) (ht:H g=some ⟨ts,9,97,true⟩) (zc:ts[6]? = some (.slice Ar m cr)) (mu:Rd (rem H gs) Ar qH) (amv:row<m) (je:qH[row]? = some (.slice (some ⟨gr,0,none⟩) n c1))
 (uS:lA (rem H gs) H gr (aK a n)) (kG:lA (rem H gs) H gl (aK b n)) (hf:bR (rem H gs) fs f) (hN:(N:Int)≤549755813888) (hn:(n:Int)≤1099511627776) (sf:aO f≤N) (sa:∀j,j<n→aO (a j)≤N) (sb:∀j,j<n→aO (b j)≤N):
 Fn Tryz.prog 125 #[.pointer (some ⟨g,0,none⟩),.slice (some ⟨gl,0,none⟩) n cl,.int .i64 (row:Int),.agg fs.toArray] H (fun _ H'=>fS gs gl H H'∧lA (rem H' gs) H' gl (aK (fun j=>b j-f*a j) n)):=by
 obtain⟨nf,df,bf,rfl⟩:=hf.cells;refine a7 (args:=[_,_,_,_]) Tryz.func125 rfl rfl Tryz.ntmps125 rfl rfl fun w0=> ?_;refine aj [0,1,2,3] rfl ?_;refine ag (bX rfl rfl (ae [0,1,2,7] ?_));refine ao (ag (ab 1 rfl (aE rfl rfl (Fn.l0 aZ (tE hf (by omega))) ?_)));rintro v1 H1 ⟨gE,cH,rfl⟩;refine ab 1 rfl (ae [0,1,2,7,12] ?_);refine aC rfl (fun hb=> ?_) (fun hb=> ?_)
 ·
  have hb:f=0:=tH (by simpa using hb);refine aD ⟨.inr rfl,_,.nil,?_⟩;exact⟨gE.iD gl,by rw[lz (g:=b) (fun j _=>by rw[hb];grind)];exact kG.le gE.le (gE.same gl wX)⟩
 ·
  skip
  refine aA (aj [0,1,2,7] rfl ?_);refine ag (ab 2 rfl (aU ah rfl rfl rfl (aS ah rfl rfl rfl (by rw[show cell H1 ((⟨g,0,none⟩:Addr).add 6)=ts[6]? by simp[cell,iN,gE.same g hg,ht]];exact zc) ?_)));refine ab 1 rfl (aQ ah rfl rfl rfl rfl rfl ((mu.le gE.le).le (bE _ _)) (by rw[Int.toNat_natCast];exact je) (by omega) (by omega) fun _=> ?_);refine ab 2 rfl (ae [1,7,19,20,21] ?_);have Qb:=uS.le gE.le (gE.same gr DU);have afZ:=kG.le gE.le (gE.same gl wX);have iX:=hf.le gE.le;have af0:=gE.ne aZ;clear uS kG hf aZ ht mu;refine aF (gG (fun(k:Nat)=>n-k) (fun(k:Nat)=>put (put (put (put (put (emp) 1 (.val (.slice (some ⟨gl,0,none⟩) n cl))) 7 (.box [.int .i64 nf,.int .i64 df,.pointer bf])) 19 (.val (.slice (some ⟨gr,0,none⟩) n c1))) 20 (.val (.int .i64 (n:Int)))) 21 (.val (.int .i64 (k:Int)))) (fun(k:Nat) H'=>fS gs gl H1 H'∧lA (rem H' gs) H' gl (aK (lZ (fun j=>b j-f*a j) b k) n)∧k≤n) 0 (⟨(Kept.refl _ _).iD _,by rw[Xa];exact afZ,Nat.zero_le _⟩) ar ?_);rintro k H2 ⟨fe,cD,fN⟩;have af1:=Qb.le fe.le (fe.same gr DU (Ne.symm za));have jV:=iX.le fe.le
  have wY:∀q,q∈gs→H2 q≠none:=fun q hq=>by
   by_cases e:q=gl
   ·
    obtain⟨xs,sz,h,_⟩:=cD;rw[e,h];simp
   ·rw[fe.same q hq e];exact af0 q hq
  refine ag (ab 1 rfl (ae [1,7,19,20,21,22] ?_));refine ao (aC rfl (fun hb=> ?_) (fun hb=> ?_))
  ·
   have gi:k<n:=by simpa using hb
   obtain⟨xr,na,da,ba,nA,zd,hxr⟩:=af1.rd (dJ gi);obtain⟨xl,nl,dl,bl,nB,ze,cP⟩:=cD.rd (dJ gi);rw[show lZ (fun j=>b j-f*a j) b k k=b k by simp[lZ]]at ze;have Qd:=sa k gi;have Xe:=sb k gi;refine aA (aj [1,7,19,20,21] rfl ?_);refine ao (aF (ag (ab 1 rfl (ck (vs:=[.int .i64 na,.int .i64 da,.pointer ba]) ah rfl rfl rfl rfl nA rfl (by decide) hxr (by omega) (by omega) fun _=>(bt fg rfl (vr 1 ?_))))));obtain⟨ti,ak,al⟩:=cI;refine aH (.inl ⟨rfl,rfl⟩) rfl rfl rfl ak al rfl rfl rfl (ae [1,7,8,9,19,20,21] ?_);refine ag (ab 1 rfl (aE rfl rfl (Fn.l0 wY (tE zd (by omega))) ?_));rintro v3 H3 ⟨dt,gO,rfl⟩;have Lq:=dt.ne wY;have yy:=jV.le dt.le;have af2:=zd.le dt.le;have af3:=ze.le dt.le;refine ab 1 rfl (ae [1,7,8,9,19,20,21,28] ?_);refine aC rfl (fun hb=> ?_) (fun hb=> ?_)
   ·
    skip
    refine eu .gD [0,1,2,3,4,5,6,7,8,9,10,11] follows (by kernel_rfl) ?_;refine ab 4 rfl (ck (vs:=[.int .i64 nl,.int .i64 dl,.pointer bl]) ah rfl rfl rfl rfl (nB.le gO) rfl (by decide) cP (by omega) (by omega) fun _=>(ab 2 rfl (bm rfl rfl (Fn.lB Lq (GA (N:=N) yy af2 sf Qd (by omega))) (fun _ _ h=>by first | exact h.le | exact h.1) ?_)));rintro v4 H4 ⟨gj,dW,n4,d4,b4,rfl,cJ⟩;have Qe:=gj.ne Lq;have wh:=vc f (a k);refine bm rfl rfl (Fn.lB Qe (DP (N:=2*N) (af3.le gj.le) cJ (by omega) (by omega) (by omega))) (fun _ _ h=>by first | exact h.le | exact h.1) ?_;rintro v5 H5 ⟨mI,fI,n5,d5,b5,rfl,ep⟩;obtain⟨GD,sz6,nS,GF⟩:=(cD.le (dt.le.trans gj.le) ((gj.same gl wX).trans (dt.same gl wX))).le mI.le (mI.same gl wX);have Qg:=GF.len;rw[bg]at Qg;obtain⟨ti,ak,al⟩:=cI;refine cQ (.inr rfl) ah rfl rfl rfl (by omega) (by omega) (nS) rfl (by show 0+n*3≤GD.length;omega) ak al (fun _=>rfl) rfl rfl rfl fun _=> ?_;refine aw (aj [1,7,19,20,21] rfl ?_);refine aB rfl (aG rfl rfl ⟨by omega,by omega⟩ (ab 1 rfl (aw ?_)));exact⟨k+1,by omega,ar,(((fe.trans (dt.iD gl)).trans (gj.iD gl)).trans (mI.iD gl)).ins wX _,by rw[cF _ wX];exact lA.set GF gi ep (by rw[bD,Nat.zero_add];rfl),by omega⟩
   have hz:a k=0:=tH (by simpa using hb);refine aA (aj [1,7,19,20,21] rfl ?_);refine aB rfl (aG rfl rfl ⟨by omega,by omega⟩ (ab 1 rfl (aw ?_)));exact⟨k+1,by omega,ar,fe.trans (dt.iD gl),by rw[←W8 (show (fun j=>b j-f*a j) k=b k by show b k-f*a k=b k;rw[hz];grind)];exact cD.le dt.le (dt.same gl wX),by omega⟩
  have hb:n≤k:=by simpa using hb
  obtain rfl:k=n:=by omega
  refine aV ?_;refine⟨.inl rfl,_,.nil,?_⟩;exact⟨(gE.iD gl).trans fe,by rw[←Xb (g:=b)];exact cD⟩
end Go.au
namespace Go.au
open Go.Proofs Num Lp
def Bx(_:Heap)(vs:List Value)(z:Int):Prop:=vs = [.int .i64 z]
def vj(_:Heap)(vs:List Value)(k:Nat):Prop:=vs = [.int .i64 (k:Int)]
theorem vk:Up Bx:=fun _ _ _ _ _ h=>h
theorem mJ:Up vj:=fun _ _ _ _ _ h=>h
structure TL where
 w:Nat
 u:Nat
 plus:List Nat
 minus:List Int
 eG:List Nat
 j7:List Rat
structure TG where
 g:Nat
 cr:Nat
 Ar:Option Addr
 pv:Value
 mv:Value
 uv:Value
 sv:Value
 cv:Value
 bv:Value
 rg:List (Nat×Nat)
 cb:List Nat
 bb:List Nat
def TG.gs(G:TG):List Nat:=G.g::(G.cb++(G.bb++G.rg.map (·.1)))
def TG.cells(G:TG)(w u m:Nat):List Value:=[.int .i64 (w:Int),.int .i64 (u:Int),G.pv,G.mv,G.uv,G.sv,.slice G.Ar m G.cr,G.cv,G.bv]
def eL(B:Nat→Nat)(m:Nat):List Value:=(List.range m).map fun i=> .int .i64 (B i:Int)
theorem gI{B:Nat→Nat}{m i:Nat}(h:i<m):(eL B m)[i]? = some (.int .i64 (B i:Int)):=by simp[eL,h]
theorem By(B:Nat→Nat)(m:Nat):(eL B m).length=m:=by simp[eL]
theorem Xf{B C:Nat→Nat}{m:Nat}(h:∀i,i<m→B i=C i):eL B m=eL C m:=by
 unfold eL
 apply List.map_congr_left
 intro i hi
 rw[h i (List.mem_range.1 hi)]
structure dC(H:Heap)(G:TG)(L:TL)(T:aq):Prop where
 n:T.n=L.w
 uw:L.u≤L.w
 st:H G.g=some ⟨G.cells L.w L.u T.m,9,97,true⟩
 nd:G.gs.Nodup
 iv:G.rg.length=T.m
 rows:∃xs,Rd (rem H G.gs) G.Ar xs∧∀(i:Nat)(p:Nat×Nat),G.rg[i]? = some p→xs[i]? = some (.slice (some ⟨p.1,0,none⟩) (L.w+1) p.2)
 row:∀(i:Nat)(p:Nat×Nat),G.rg[i]? = some p→lA (rem H G.gs) H p.1 (aK (T.A i) (L.w+1))
 basis:(T.m=0∧G.bb = []∧G.bv = .slice none 0 0)∨∃gb cb sz,G.bb = [gb]∧G.bv = .slice (some ⟨gb,0,none⟩) T.m cb∧H gb=some ⟨eL T.B T.m,sz,3,true⟩
 plus:aR vj 1 (rem H G.gs) G.pv L.plus
 minus:aR Bx 1 (rem H G.gs) G.mv L.minus
 eG:aR vj 1 (rem H G.gs) G.uv L.eG
 j7:aR bR 3 (rem H G.gs) G.sv L.j7
 cb:∀q,q∈G.cb→H q≠none
def iQ(H:Heap)(G:TG)(L:TL)(T:aq):Prop:=∃gc cc,G.cb = [gc]∧G.cv = .slice (some ⟨gc,0,none⟩) (L.w+1) cc∧lA (rem H G.gs) H gc (aK T.c (L.w+1))
section
variable {H H':Heap} {G:TG} {L:TL} {T:aq}
theorem TG.rT(G:TG):G.g∈G.gs:=List.mem_cons_self ..
theorem TG.zf{G:TG}{q:Nat}(h:q∈G.cb):q∈G.gs:=List.mem_cons_of_mem _ (List.mem_append_left _ h)
theorem TG.mK{G:TG}{q:Nat}(h:q∈G.bb):q∈G.gs:=List.mem_cons_of_mem _ (List.mem_append_right _ (List.mem_append_left _ h))
theorem TG.gJ{G:TG}{i:Nat}{p:Nat×Nat}(h:G.rg[i]? = some p):p.1∈G.gs:=List.mem_cons_of_mem _ (List.mem_append_right _ (List.mem_append_right _ (List.mem_map.2 ⟨p,List.mem_of_getElem? h,rfl⟩)))
theorem dC.ne(h:dC H G L T):∀q,q∈G.gs→H q≠none:=fun q hq=>by
 rcases List.mem_cons.1 hq with rfl | hq
 ·rw[h.st];simp
 ·rcases List.mem_append.1 hq with hq | hq
  ·exact h.cb q hq
  ·rcases List.mem_append.1 hq with hq | hq
   ·rcases h.basis with ⟨_,h1,_⟩ | ⟨gb,cb,sz,h1,_,h2⟩
    ·rw[h1]at hq;cases hq
    ·rw[h1,List.mem_singleton]at hq
     rw[hq,h2];simp
   ·obtain⟨p,hp,rfl⟩:=List.mem_map.1 hq
    obtain⟨i,hi⟩:=List.getElem?_of_mem hp
    obtain⟨xs,sz,h1,_⟩:=h.row i p hi
    rw[h1];simp
theorem dC.cell(h:dC H G L T){k:Nat}{v:Value}(hk:(G.cells L.w L.u T.m)[k]? = some v):au.cell H ((⟨G.g,0,none⟩:Addr).add k)=some v:=by
 simp[au.cell,iN,h.st,hk]
theorem dC.iR(h:dC H G L T):au.cell H (⟨G.g,0,none⟩:Addr)=some (.int .i64 (L.w:Int)):=by
 have:=h.cell (k:=0) (v:= .int .i64 (L.w:Int)) rfl
 rwa [iN]at this
theorem TG.Bz{G:TG}(h:G.gs.Nodup){q:Nat}(hq:q∈G.cb∨q∈G.bb∨∃(i:Nat)(p:Nat×Nat),G.rg[i]? = some p∧p.1=q):G.g≠q:=by
 have h1:=(List.nodup_cons.1 h).1
 intro e
 subst e
 apply h1
 rcases hq with hq | hq | ⟨i,p,hp,he⟩
 ·exact List.mem_append_left _ hq
 ·exact List.mem_append_right _ (List.mem_append_left _ hq)
 ·exact List.mem_append_right _ (List.mem_append_right _ (List.mem_map.2 ⟨p,List.mem_of_getElem? hp,he⟩))
theorem TG.BA{G:TG}(h:G.gs.Nodup){q r:Nat}(hq:q∈G.cb)(hr:r∈G.bb∨∃(i:Nat)(p:Nat×Nat),G.rg[i]? = some p∧p.1=r):q≠r:=by
 have h1:=(List.nodup_append.1 (List.nodup_cons.1 h).2).2.2 q hq
 refine h1 r ?_
 rcases hr with hr | ⟨i,p,hp,he⟩
 ·exact List.mem_append_left _ hr
 ·exact List.mem_append_right _ (List.mem_map.2 ⟨p,List.mem_of_getElem? hp,he⟩)
theorem TG.GH{G:TG}(h:G.gs.Nodup){q:Nat}(hq:q∈G.bb){i:Nat}{p:Nat×Nat}(hp:G.rg[i]? = some p):q≠p.1:=
 (List.nodup_append.1 (List.nodup_append.1 (List.nodup_cons.1 h).2).2.1).2.2 q hq p.1 (List.mem_map.2 ⟨p,List.mem_of_getElem? hp,rfl⟩)
theorem TG.Lr{G:TG}(h:G.gs.Nodup){i j:Nat}{p q:Nat×Nat}(hp:G.rg[i]? = some p)(hq:G.rg[j]? = some q)(aZ:i≠j):p.1≠q.1:=by
 have h1:=(List.nodup_append.1 (List.nodup_append.1 (List.nodup_cons.1 h).2).2.1).2.1
 intro e
 have hi:(G.rg.map (·.1))[i]? = some p.1:=by rw[List.getElem?_map,hp];rfl
 have hj:(G.rg.map (·.1))[j]? = some p.1:=by rw[List.getElem?_map,hq,e];rfl
 obtain⟨hi1,uI⟩:=List.getElem?_eq_some_iff.1 hi
 obtain⟨uU,wA⟩:=List.getElem?_eq_some_iff.1 hj
 exact aZ ((List.getElem_inj h1).1 (uI.trans wA.symm))
theorem dC.kept(h:dC H G L T)(k:Kept G.gs H H'):dC H' G L T where
 n:=h.n
 uw:=h.uw
 st:=by rw[k.same _ G.rT];exact h.st
 nd:=h.nd
 iv:=h.iv
 rows:=by obtain⟨xs,h1,h2⟩:=h.rows;exact⟨xs,h1.le k.le,h2⟩
 row:=fun i p hp=>(h.row i p hp).le k.le (k.same _ (TG.gJ hp))
 basis:=by
  rcases h.basis with h1 | ⟨gb,cb,sz,h1,h2,h3⟩
  ·exact .inl h1
  ·exact .inr ⟨gb,cb,sz,h1,h2,by rw[k.same _ (TG.mK (by rw[h1];exact List.mem_singleton.2 rfl))];exact h3⟩
 plus:=h.plus.le mJ k.le
 minus:=h.minus.le vk k.le
 eG:=h.eG.le mJ k.le
 j7:=h.j7.le jh k.le
 cb:=fun q hq=>by rw[k.same _ (TG.zf hq)];exact h.cb q hq
theorem iQ.kept(h:iQ H G L T)(k:Kept G.gs H H'):iQ H' G L T:=by
 obtain⟨gc,cc,h1,h2,h3⟩:=h
 exact⟨gc,cc,h1,h2,h3.le k.le (k.same _ (TG.zf (by rw[h1];exact List.mem_singleton.2 rfl)))⟩
theorem dC.congr{T':aq}(h:dC H G L T)(hm:T'.m=T.m)(hn:T'.n=T.n)(hA:∀i,i<T.m→∀j,j≤T.n→T'.A i j=T.A i j)(hB:∀i,i<T.m→T'.B i=T.B i):dC H G L T' where
 n:=hn.trans h.n
 uw:=h.uw
 st:=by rw[hm];exact h.st
 nd:=h.nd
 iv:=h.iv.trans hm.symm
 rows:=h.rows
 row:=fun i p hp=>by
  have hi:i<T.m:=by rw[←h.iv];exact(List.getElem?_eq_some_iff.1 hp).1
  rw[lz (g:=T.A i) (fun j hj=>hA i hi j (by rw[h.n];omega))];exact h.row i p hp
 basis:=by
  rw[hm,Xf hB];exact h.basis
 plus:=h.plus
 minus:=h.minus
 eG:=h.eG
 j7:=h.j7
 cb:=h.cb
theorem iQ.congr{T':aq}(h:iQ H G L T)(hc:∀j,j≤L.w→T'.c j=T.c j):iQ H G L T':=by
 obtain⟨gc,cc,h1,h2,h3⟩:=h
 exact⟨gc,cc,h1,h2,by rw[lz (g:=T.c) (fun j hj=>hc j (by omega))];exact h3⟩
def _root_.Lp.aq.setRow(T:aq)(i:Nat)(f:Nat→Rat):aq:={T with A:=fun k=>if k=i then f else T.A k}
theorem dC.setRow(h:dC H G L T){i:Nat}{p:Nat×Nat}(hp:G.rg[i]? = some p)(k:fS G.gs p.1 H H'){f:Nat→Rat}(hb:lA (rem H' G.gs) H' p.1 (aK f (L.w+1))):dC H' G L (T.setRow i f) where
 n:=h.n
 uw:=h.uw
 st:=by rw[k.same _ G.rT (TG.Bz h.nd (.inr (.inr ⟨i,p,hp,rfl⟩)))];exact h.st
 nd:=h.nd
 iv:=h.iv
 rows:=by obtain⟨xs,h1,h2⟩:=h.rows;exact⟨xs,h1.le k.le,h2⟩
 row:=fun j q hq=>by
  by_cases e:j=i
  ·subst e
   rw[hp]at hq
   cases hq
   simp only[aq.setRow,if_true]
   exact hb
  ·simp only[aq.setRow,if_neg e]
   exact(h.row j q hq).le k.le (k.same _ (TG.gJ hq) (TG.Lr h.nd hq hp e))
 basis:=by
  rcases h.basis with h1 | ⟨gb,cb,sz,h1,h2,h3⟩
  ·exact .inl h1
  ·have hm:gb∈G.bb:=by rw[h1];exact List.mem_singleton.2 rfl
   exact .inr ⟨gb,cb,sz,h1,h2,by rw[k.same _ (TG.mK hm) (TG.GH h.nd hm hp)];exact h3⟩
 plus:=h.plus.le mJ k.le
 minus:=h.minus.le vk k.le
 eG:=h.eG.le mJ k.le
 j7:=h.j7.le jh k.le
 cb:=fun q hq=>by rw[k.same _ (TG.zf hq) (TG.BA h.nd hq (.inr ⟨i,p,hp,rfl⟩))];exact h.cb q hq
theorem iQ.setRow(h:iQ H G L T)(nd:G.gs.Nodup){i:Nat}{p:Nat×Nat}(hp:G.rg[i]? = some p)(k:fS G.gs p.1 H H')(f:Nat→Rat):iQ H' G L (T.setRow i f):=by
 obtain⟨gc,cc,h1,h2,h3⟩:=h
 have hm:gc∈G.cb:=by rw[h1];exact List.mem_singleton.2 rfl
 exact⟨gc,cc,h1,h2,h3.le k.le (k.same _ (TG.zf hm) (TG.BA nd hm (.inr ⟨i,p,hp,rfl⟩)))⟩
theorem dC.af4(h:dC H G L T){gc:Nat}(hc:G.cb = [gc])(k:fS G.gs gc H H'){f:Nat→Rat}(hb:lA (rem H' G.gs) H' gc (aK f (L.w+1))):dC H' G L {T with c:=f}:=by
 have hm:gc∈G.cb:=by rw[hc];exact List.mem_singleton.2 rfl
 exact
 {n:=h.n
  uw:=h.uw
  st:=by rw[k.same _ G.rT (TG.Bz h.nd (.inl hm))];exact h.st
  nd:=h.nd
  iv:=h.iv
  rows:=by obtain⟨xs,h1,h2⟩:=h.rows;exact⟨xs,h1.le k.le,h2⟩
  row:=fun j q hq=>(h.row j q hq).le k.le (k.same _ (TG.gJ hq) (fun e=>TG.BA h.nd hm (.inr ⟨j,q,hq,rfl⟩) e.symm))
  basis:=by
   rcases h.basis with h1 | ⟨gb,cb,sz,h1,h2,h3⟩
   ·exact .inl h1
   ·have bH:gb∈G.bb:=by rw[h1];exact List.mem_singleton.2 rfl
    exact .inr ⟨gb,cb,sz,h1,h2,by rw[k.same _ (TG.mK bH) (fun e=>TG.BA h.nd hm (.inl bH) e.symm)];exact h3⟩
  plus:=h.plus.le mJ k.le
  minus:=h.minus.le vk k.le
  eG:=h.eG.le mJ k.le
  j7:=h.j7.le jh k.le
  cb:=fun q hq=>by
   rw[hc,List.mem_singleton]at hq
   obtain⟨xs,sz,h1,_⟩:=hb
   rw[hq,h1];simp}
theorem dC.DV(h:dC H G L T){gb cb sz:Nat}(hb:G.bb = [gb])(hv:G.bv = .slice (some ⟨gb,0,none⟩) T.m cb){r s:Nat}{e:Ent}(he:e=⟨eL (fun i=>if i=r then s else T.B i) T.m,sz,3,true⟩):dC (ins H gb e) G L {T with B:=fun i=>if i=r then s else T.B i}:=by
 have hm:gb∈G.bb:=by rw[hb];exact List.mem_singleton.2 rfl
 have k:fS G.gs gb H (ins H gb e):=((Kept.refl _ _).iD gb).ins (TG.mK hm) e
 exact
 {n:=h.n
  uw:=h.uw
  st:=by rw[k.same _ G.rT (TG.Bz h.nd (.inr (.inl hm)))];exact h.st
  nd:=h.nd
  iv:=h.iv
  rows:=by obtain⟨xs,h1,h2⟩:=h.rows;exact⟨xs,h1.le k.le,h2⟩
  row:=fun j q hq=>(h.row j q hq).le k.le (k.same _ (TG.gJ hq) (fun e=>TG.GH h.nd hm hq e.symm))
  basis:= .inr ⟨gb,cb,sz,hb,hv,by rw[bD,he]⟩
  plus:=h.plus.le mJ k.le
  minus:=h.minus.le vk k.le
  eG:=h.eG.le mJ k.le
  j7:=h.j7.le jh k.le
  cb:=fun q hq=>by rw[k.same _ (TG.zf hq) (TG.BA h.nd hq (.inl hm))];exact h.cb q hq}
theorem iQ.DV(h:iQ H G L T)(nd:G.gs.Nodup){gb:Nat}(hb:G.bb = [gb])(e:Ent)(B:Nat→Nat):iQ (ins H gb e) G L {T with B:=B}:=by
 have hm:gb∈G.bb:=by rw[hb];exact List.mem_singleton.2 rfl
 have k:fS G.gs gb H (ins H gb e):=((Kept.refl _ _).iD gb).ins (TG.mK hm) e
 obtain⟨gc,cc,h1,h2,h3⟩:=h
 have Xg:gc∈G.cb:=by rw[h1];exact List.mem_singleton.2 rfl
 exact⟨gc,cc,h1,h2,h3.le k.le (k.same _ (TG.zf Xg) (TG.BA nd Xg (.inl hm)))⟩
structure Sz(N:Nat)(T:aq):Prop where
 A:∀i,i<T.m→∀j,j≤T.n→aO (T.A i j)≤N
 c:∀j,j≤T.n→aO (T.c j)≤N
end
end Go.au
namespace Go.au
open Go.Proofs Num Lp
section
variable {H:Heap} {G:TG} {L:TL} {T:aq} {N:Nat} {fs:List Value} {f:Rat}
theorem af5(h:dC H G L T){i r:Nat}{p q:Nat×Nat}(hp:G.rg[i]? = some p)(hq:G.rg[r]? = some q)(aZ:i≠r)(hf:bR (rem H G.gs) fs f)(hN:(N:Int)≤549755813888)(hw:(L.w:Int)≤1000000)(sf:aO f≤N)(si:∀j,j≤L.w→aO (T.A i j)≤N)(sr:∀j,j≤L.w→aO (T.A r j)≤N):
  Fn Tryz.prog 125 #[.pointer (some ⟨G.g,0,none⟩),.slice (some ⟨p.1,0,none⟩) (L.w+1) p.2,.int .i64 (r:Int),.agg fs.toArray] H (fun _ H'=>dC H' G L (T.setRow i (fun j=>T.A i j-f*T.A r j))∧fS G.gs p.1 H H'):=by
 obtain⟨qH,mu,je⟩:=h.rows
 refine(Xd (N:=N) h.ne G.rT (TG.gJ hp) (TG.gJ hq) (TG.Lr h.nd hp hq aZ) (TG.Bz h.nd (.inr (.inr ⟨i,p,hp,rfl⟩))) h.st rfl mu ?_ (je r q hq) (h.row r q hq) (h.row i p hp) hf hN (by omega) sf (fun j hj=>sr j (by omega)) (fun j hj=>si j (by omega))).mono fun v H' hh=>⟨h.setRow hp hh.1 hh.2,hh.1⟩
 rw[←h.iv];exact(List.getElem?_eq_some_iff.1 hq).1
theorem Xh(h:dC H G L T)(hc:iQ H G L T){r:Nat}{q:Nat×Nat}(hq:G.rg[r]? = some q)(hf:bR (rem H G.gs) fs f)(hN:(N:Int)≤549755813888)(hw:(L.w:Int)≤1000000)(sf:aO f≤N)(si:∀j,j≤L.w→aO (T.c j)≤N)(sr:∀j,j≤L.w→aO (T.A r j)≤N):
  Fn Tryz.prog 125 #[.pointer (some ⟨G.g,0,none⟩),G.cv,.int .i64 (r:Int),.agg fs.toArray] H (fun _ H'=>dC H' G L {T with c:=fun j=>T.c j-f*T.A r j}∧iQ H' G L {T with c:=fun j=>T.c j-f*T.A r j}∧Heap.le (rem H G.gs) (rem H' G.gs)):=by
 obtain⟨qH,mu,je⟩:=h.rows
 obtain⟨gc,cc,h1,h2,h3⟩:=hc
 have hm:gc∈G.cb:=by rw[h1];exact List.mem_singleton.2 rfl
 rw[h2]
 refine(Xd (N:=N) h.ne G.rT (TG.zf hm) (TG.gJ hq) (TG.BA h.nd hm (.inr ⟨r,q,hq,rfl⟩)) (TG.Bz h.nd (.inl hm)) h.st rfl mu ?_ (je r q hq) (h.row r q hq) h3 hf hN (by omega) sf (fun j hj=>sr j (by omega)) (fun j hj=>si j (by omega))).mono fun v H' hh=>⟨h.af4 h1 hh.1 hh.2,⟨gc,cc,h1,h2,hh.2⟩,hh.1.le⟩
 rw[←h.iv];exact(List.getElem?_eq_some_iff.1 hq).1
end
theorem Qh{B:Nat→Nat}{m r s:Nat}:(eL B m).set r (.int .i64 (s:Int))=eL (fun i=>if i=r then s else B i) m:=by
 apply List.ext_getElem?
 intro i
 by_cases hi:i<m
 ·by_cases e:i=r
  ·subst e
   rw[List.getElem?_set_self (by rw[By];exact hi),gI hi,if_pos rfl]
  ·rw[List.getElem?_set_ne (fun e'=>e e'.symm),gI hi,gI hi,if_neg e]
 ·rw[List.getElem?_eq_none (by rw[List.length_set,By];omega),List.getElem?_eq_none (by rw[By];omega)]
def lC(T:aq)(r s k:Nat):aq:={T with A:=fun i=>if i=r then(fun j=>T.A r j/T.A r s)else if i<k then(fun j=>T.A i j-T.A i s*(T.A r j/T.A r s))else T.A i}
theorem af6{T:aq}{r s k:Nat}(hk:k≠r)(i j:Nat):(lC T r s (k+1)).A i j=((lC T r s k).setRow k (fun j=>(lC T r s k).A k j-T.A k s*(lC T r s k).A r j)).A i j:=by
 unfold aq.setRow lC
 simp only
 by_cases e1:i=k
 ·subst e1
  rw[if_neg hk,if_pos (by omega),if_pos rfl,if_neg hk,if_neg (by omega),if_pos trivial]
 ·rw[if_neg e1]
  by_cases e2:i=r
  ·rw[if_pos e2,if_pos e2]
  ·rw[if_neg e2,if_neg e2]
   by_cases e3:i<k
   ·rw[if_pos (by omega),if_pos e3]
   ·rw[if_neg (by omega),if_neg e3]
theorem af7{T:aq}{r s k:Nat}(hk:k=r)(i j:Nat):(lC T r s (k+1)).A i j=(lC T r s k).A i j:=by
 unfold lC
 simp only
 by_cases e2:i=r
 ·rw[if_pos e2,if_pos e2]
 ·rw[if_neg e2,if_neg e2]
  by_cases e3:i<k
  ·rw[if_pos (by omega),if_pos e3]
  ·rw[if_neg (by omega),if_neg e3]
theorem dC.get{H:Heap}{G:TG}{L:TL}{T:aq}(h:dC H G L T){i:Nat}(hi:i<T.m):∃p,G.rg[i]? = some p:=⟨_,List.getElem?_eq_getElem (by rw[h.iv];exact hi)⟩
theorem Xi{H:Heap}{G:TG}{L:TL}{T:aq}{N r s:Nat}(h:dC H G L T)(hc:iQ H G L T)(hr:r<T.m)(hs:s<L.w)(hp:T.A r s≠0)(hz:Sz N T)(Qj:Sz N (T.pivot r s))(hN:(N:Int)≤549755813888)(hw:(L.w:Int)≤1000000)(hm:(T.m:Int)≤1000000):
 Fn Tryz.prog 127 #[.pointer (some ⟨G.g,0,none⟩),.int .i64 (r:Int),.int .i64 (s:Int)] H (fun _ H'=>dC H' G L (T.pivot r s)∧iQ H' G L (T.pivot r s)∧Heap.le (rem H G.gs) (rem H' G.gs)):=by
 obtain⟨pr,cU⟩:=h.get hr
 obtain⟨qH,mu,je⟩:=h.rows
 have mH:s≤T.n:=by rw[h.n];omega
 have Xj:∀j,j≤L.w→aO (T.A r j/T.A r s)≤N:=fun j hj=>by
  have:=Qj.A r hr j (by show j≤T.n;rw[h.n];exact hj)
  simpa [aq.pivot]using this
 have Ls:∀i,i<T.m→∀j,j≤L.w→aO (T.A i j)≤N:=fun i hi j hj=>hz.A i hi j (by rw[h.n];exact hj)
 obtain⟨xp,np,dp,bp,l4,hnp,BB⟩:=(h.row r pr cU).rd (dJ (show s<L.w+1 by omega));refine a7 (args:=[_,_,_]) Tryz.func127 rfl rfl Tryz.ntmps127 rfl rfl fun w0=> ?_;refine aj [0,1,2] rfl ?_;refine ag (ab 2 rfl (aU ah rfl rfl rfl (aS ah rfl rfl rfl (h.cell rfl) (ab 1 rfl (aQ ah rfl rfl rfl rfl rfl (mu.le (bE _ _)) (by rw[Int.toNat_natCast];exact je r pr cU) (by omega) (by omega) fun _=> ?_)))));refine ab 1 rfl (ae [0,1,2,6] ?_);refine ag (ab 2 rfl (ck (vs:=[.int .i64 np,.int .i64 dp,.pointer bp]) ah rfl rfl rfl rfl l4 rfl (by decide) (by rw[Int.toNat_natCast];exact BB) (by omega) (by omega) fun _=> ?_));refine bt fg rfl ?_;obtain⟨ti,ak,al⟩:=cI;refine aH (.inl ⟨rfl,rfl⟩) rfl rfl rfl ak al rfl rfl rfl (ae [0,1,2,6,7] ?_);refine ao (ag (ab 3 rfl (ae [0,1,2,6,7,23,24,25] ?_)));refine aF (gG (fun(k:Nat)=>L.w+1-k) (fun(k:Nat)=>put (put (put (put (put (put (put (put (emp) 0 (.val (.pointer (some ⟨G.g,0,none⟩)))) 1 (.val (.int .i64 (r:Int)))) 2 (.val (.int .i64 (s:Int)))) 6 (.val (.slice (some ⟨pr.1,0,none⟩) (L.w+1) pr.2))) 7 (.box [.int .i64 np,.int .i64 dp,.pointer bp])) 23 (.val (.slice (some ⟨pr.1,0,none⟩) (L.w+1) pr.2))) 24 (.val (.int .i64 ((L.w+1:Nat):Int)))) 25 (.val (.int .i64 (k:Int)))) (fun(k:Nat) H'=>fS G.gs pr.1 H H'∧lA (rem H' G.gs) H' pr.1 (aK (lZ (fun j=>T.A r j/T.A r s) (T.A r) k) (L.w+1))∧k≤L.w+1) 0 (⟨(Kept.refl _ _).iD _,by rw[Xa];exact h.row r pr cU,Nat.zero_le _⟩) ar ?_)
 rintro k H2 ⟨fe,cD,fN⟩;have af8:=hnp.le fe.le
 have wY:∀q,q∈G.gs→H2 q≠none:=fun q hq=>by
  by_cases e:q=pr.1
  ·
   obtain⟨xs,sz,h,_⟩:=cD;rw[e,h];simp
  ·rw[fe.same q hq e];exact h.ne q hq
 refine ag (ab 1 rfl (ae [0,1,2,6,7,23,24,25,26] ?_));refine ao (aC rfl (fun hb=> ?_) (fun hb=> ?_))
 ·
  have gi:k<L.w+1:=by simp at hb;omega
  obtain⟨xl,nl,dl,bl,nB,ze,cP⟩:=cD.rd (dJ gi);rw[show lZ (fun j=>T.A r j/T.A r s) (T.A r) k k=T.A r k by simp[lZ]]at ze;have Qd:=Ls r hr k (by omega);have Xe:=Ls r hr s (by omega);refine aA (aj [0,1,2,6,7,23,24,25] rfl ?_);refine ao (aF (ag (ab 1 rfl (ck (vs:=[.int .i64 nl,.int .i64 dl,.pointer bl]) ah rfl rfl rfl rfl nB rfl (by decide) cP (by omega) (by omega) fun _=>(bt fg rfl (vr 1 ?_))))));obtain⟨ti,ak,al⟩:=cI;refine aH (.inl ⟨rfl,rfl⟩) rfl rfl rfl ak al rfl rfl rfl (ae [0,1,2,6,7,8,9,23,24,25] ?_);refine ag (ab 1 rfl (aE rfl rfl (Fn.l0 wY (tE ze (by omega))) ?_));rintro v3 H3 ⟨dt,gO,rfl⟩;have Lq:=dt.ne wY;refine ab 1 rfl (ae [0,1,2,6,7,8,9,23,24,25,32] ?_);refine aC rfl (fun hb=> ?_) (fun hb=> ?_)
  ·
   skip
   refine aB rfl (ab 4 rfl (aE rfl rfl (Fn.lB Lq (W0 (N:=N) (ze.le dt.le) (af8.le dt.le) Qd Xe (by omega) hp)) ?_));rintro v4 H4 ⟨gj,dW,n4,d4,b4,rfl,cJ⟩;obtain⟨GD,sz6,nS,GF⟩:=cD.le (dt.le.trans gj.le) ((gj.same _ (TG.gJ cU)).trans (dt.same _ (TG.gJ cU)));have Qg:=GF.len;rw[bg]at Qg;obtain⟨ti,ak,al⟩:=cI;refine cQ (.inl rfl) ah rfl rfl rfl (by omega) (by omega) (nS) rfl (by show 0+(L.w+1)*3≤GD.length;omega) ak al (fun _=>rfl) rfl rfl rfl fun _=> ?_;refine aw (aj [0,1,2,6,7,23,24,25] rfl ?_);refine aB rfl (aG rfl rfl ⟨by omega,by omega⟩ (ab 1 rfl (aw ?_)));exact⟨k+1,by omega,ar,((fe.trans (dt.iD _)).trans (gj.iD _)).ins (TG.gJ cU) _,by rw[cF _ (TG.gJ cU)];exact lA.set GF gi cJ (by rw[bD,Nat.zero_add];rfl),by omega⟩
  ·
   have ji:T.A r k=0:=tH (by simpa using hb);refine aA (aj [0,1,2,6,7,23,24,25] rfl ?_);refine aB rfl (aG rfl rfl ⟨by omega,by omega⟩ (ab 1 rfl (aw ?_)));exact⟨k+1,by omega,ar,fe.trans (dt.iD _),by rw[←W8 (show (fun j=>T.A r j/T.A r s) k=T.A r k by show T.A r k/T.A r s=T.A r k;rw[ji,Rat.div_def,Rat.zero_mul])];exact cD.le dt.le (dt.same _ (TG.gJ cU)),by omega⟩
 ·
  have hb:L.w+1≤k:=by simp at hb;omega
  obtain rfl:k=L.w+1:=by omega
  rw[Xb]at cD;have eW:=fe.le;have u0:=(hc.setRow h.nd cU fe (fun j=>T.A r j/T.A r s)).congr (T':=lC T r s 0) (fun j _=>rfl);have h3:=(h.setRow cU fe cD).congr (T':=lC T r s 0) rfl rfl (fun i hi j hj=>by simp only[lC,aq.setRow];split <;> rfl) (fun i hi=>rfl);refine aV (aj [0,1,2] rfl ?_);refine ao (ag (ab 2 rfl (aU ah rfl rfl rfl (aS ah rfl rfl rfl (h3.cell rfl) (ab 2 rfl (ae [0,1,2,43,44,45] ?_))))));refine aF (gG (fun(k:Nat)=>T.m-k) (fun(k:Nat)=>put (put (put (put (put (put (emp) 0 (.val (.pointer (some ⟨G.g,0,none⟩)))) 1 (.val (.int .i64 (r:Int)))) 2 (.val (.int .i64 (s:Int)))) 43 (.val (.slice G.Ar T.m G.cr))) 44 (.val (.int .i64 (T.m:Int)))) 45 (.val (.int .i64 (k:Int)))) (fun(k:Nat) H'=>dC H' G L (lC T r s k)∧iQ H' G L (lC T r s k)∧Heap.le (rem H G.gs) (rem H' G.gs)∧k≤T.m) 0 (⟨h3,u0,eW,Nat.zero_le _⟩) ar ?_);rintro k H4 ⟨h4,oQ,kH,gj⟩;refine ag (ab 1 rfl (ae [0,1,2,43,44,45,46] ?_));refine ao (aC rfl (fun hb=> ?_) (fun hb=> ?_))
  ·
   have lD:k<T.m:=by simpa using hb
   obtain⟨pk,qI⟩:=h.get lD;obtain⟨xs4,BC,lV⟩:=h4.rows;refine aA (aj [0,1,2,43,44,45] rfl ?_);refine ao (aF (ag (ab 1 rfl (aQ ah rfl rfl rfl rfl rfl (BC.le (bE _ _)) (by rw[Int.toNat_natCast];exact lV k pk qI) (by omega) (by omega) fun _=> ?_))));refine ab 2 rfl (ae [0,1,2,10,11,43,44,45] ?_);refine ag (ab 3 rfl (ae [0,1,2,11,43,44,45,52] ?_));refine aC rfl (fun hb=> ?_) (fun hb=> ?_)
   ·
    have tm:k≠r:=by simp at hb;omega
    obtain⟨xk,nk,dk,bk,Lu,GI,Lv⟩:=(h4.row k pk qI).rd (dJ (show s<L.w+1 by omega));rw[show (lC T r s k).A k s=T.A k s by simp[lC,tm]]at GI;refine aB rfl (ab 5 rfl (ck (vs:=[.int .i64 nk,.int .i64 dk,.pointer bk]) ah rfl rfl rfl rfl Lu rfl (by decide) (by rw[Int.toNat_natCast];exact Lv) (by omega) (by omega) fun _=> ?_));refine aE rfl rfl (af5 (N:=N) h4 qI cU tm GI hN hw (Ls k lD s (by omega)) (fun j hj=>by simpa [lC,tm]using Ls k lD j hj) (fun j hj=>by simpa [lC]using Xj j hj)) ?_;rintro v5 H5 ⟨h5,wZ⟩;refine aw (aj [0,1,2,43,44,45] rfl ?_);refine aB rfl (aG rfl rfl ⟨by omega,by omega⟩ (ab 1 rfl (aw ?_)));exact⟨k+1,by omega,ar,h5.congr rfl rfl (fun i hi j hj=>af6 tm i j) (fun i hi=>rfl),(oQ.setRow h4.nd qI wZ (fun _=>0)).congr (fun j _=>rfl),kH.trans wZ.le,by omega⟩
   have tm:k=r:=by simp at hb;omega
   refine aA (aj [0,1,2,43,44,45] rfl ?_);refine aB rfl (aG rfl rfl ⟨by omega,by omega⟩ (ab 1 rfl (aw ?_)));exact⟨k+1,by omega,ar,h4.congr rfl rfl (fun i hi j hj=>af7 tm i j) (fun i hi=>rfl),oQ.congr (fun j _=>rfl),kH,by omega⟩
  have hb:T.m≤k:=by simpa using hb
  obtain rfl:k=T.m:=by omega
  obtain⟨gc,cc,GJ,bh,BD⟩:=id oQ;obtain⟨xc,nc,dc,bc,nT,yC,tI⟩:=BD.rd (dJ (show s<L.w+1 by omega))
  have pc:cell H4 ((⟨G.g,0,none⟩:Addr).add 7)=some (.slice (some ⟨gc,0,none⟩) (L.w+1) cc):=by rw[←bh];exact h4.cell rfl
  refine aV (aj [0,1,2] rfl ?_);refine bO .uB [0,1,2,3,4,5,6,7,8,9,10,11,12,13] follows (by kernel_rfl) ?_;refine ab 3 rfl (aU ah rfl rfl rfl (aS ah rfl rfl rfl (pc) (ab 3 rfl (aU ah rfl rfl rfl (aS ah rfl rfl rfl (pc) (ab 1 rfl (ck (vs:=[.int .i64 nc,.int .i64 dc,.pointer bc]) ah rfl rfl rfl rfl nT rfl (by decide) (by rw[Int.toNat_natCast];exact tI) (by omega) (by omega) fun _=> ?_)))))));refine Wn rfl rfl (by rw[←bh];exact Xh (N:=N) h4 oQ cU yC hN hw (hz.c s mH) (fun j hj=>hz.c j (by rw[h.n];exact hj)) (fun j hj=>by simpa [lC]using Xj j hj)) ?_;rintro v6 H6 ⟨h6,qJ,rU⟩
  obtain⟨gb,cb,sz,lx,dh,bx⟩:∃gb cb sz,G.bb = [gb]∧G.bv = .slice (some ⟨gb,0,none⟩) T.m cb∧H6 gb=some ⟨eL T.B T.m,sz,3,true⟩:=by
   rcases h6.basis with h7 | h7
   ·
    have h8:T.m=0:=h7.1
    omega
   ·exact h7
  refine ae [0,1,2] ?_;refine aB rfl (ab 2 rfl (aU ah rfl rfl rfl (aS ah rfl rfl rfl (show cell H6 _=some (.slice (some ⟨gb,0,none⟩) T.m cb)from by rw[←dh];exact h6.cell rfl) ?_)));refine vr 2 ?_;obtain⟨ti,ak,al⟩:=pM;refine cQ (.inl rfl) ah rfl rfl rfl (by omega) (by omega) (bx) rfl (by show 0+T.m*1≤(eL T.B T.m).length;rw[By];omega) ak al (fun _=>rfl) rfl rfl rfl fun _=> ?_;refine aw ?_;refine⟨.inl rfl,_,.nil,?_⟩
  have he:({(⟨eL T.B T.m,sz,3,true⟩:Ent)with xs:=aL (eL T.B T.m) (0+((r:Int)).toNat*1) [.int .i64 (s:Int)]}:Ent)=⟨eL (fun i=>if i=r then s else T.B i) T.m,sz,3,true⟩:=by
   rw[Int.toNat_natCast,Nat.mul_one,Nat.zero_add,←Qh];rfl
  refine⟨(h6.DV (r:=r) (s:=s) (sz:=sz) lx dh he).congr (T':=T.pivot r s) rfl rfl (fun i hi j hj=> ?_) (fun i hi=>rfl),(qJ.DV h6.nd lx _ (fun _=>0)).congr (T':=T.pivot r s) (fun j hj=> ?_),?_⟩
  ·
   have fX:i<T.m:=hi
   simp only[aq.pivot,lC]
   by_cases e:i=r
   ·simp[e]
   ·simp[e,fX]
  ·simp[aq.pivot,lC]
  have Lw:gb∈G.gs:=TG.mK (by rw[lx];exact List.mem_singleton.2 rfl);rw[cF _ Lw];exact kH.trans rU
end Go.au
namespace Go.au
open Go.Proofs Num Lp
theorem GK{q:Rat}:0≤gZ q↔0≤q:=by
 unfold gZ
 by_cases h:q<0
 ·rw[if_pos h];constructor <;> intro h' <;> first | omega | grind
 ·rw[if_neg h]
  by_cases e:q=0
  ·rw[if_pos e];constructor <;> intro h' <;> first | omega | grind
  ·rw[if_neg e];constructor <;> intro h' <;> first | omega | grind
theorem Qk{q:Rat}:gZ q≤0↔q≤0:=by
 unfold gZ
 by_cases h:q<0
 ·rw[if_pos h];constructor <;> intro h' <;> first | omega | grind
 ·rw[if_neg h]
  by_cases e:q=0
  ·rw[if_pos e];constructor <;> intro h' <;> first | omega | grind
  ·rw[if_neg e];constructor <;> intro h' <;> first | omega | grind
theorem Lx{q:Rat}:gZ q<0↔q<0:=by
 have:=GK (q:=q)
 constructor
 ·intro h;false_or_by_contra;have:=this.2 (by grind);omega
 ·intro h;false_or_by_contra;have:=this.1 (by omega);grind
theorem DW{q:Rat}:0<gZ q↔0<q:=by
 have:=Qk (q:=q)
 constructor
 ·intro h;false_or_by_contra;have:=this.2 (by grind);omega
 ·intro h;false_or_by_contra;have:=this.1 (by omega);grind
theorem zh{q:Rat}:gZ q=0↔q=0:=by
 constructor
 ·exact tH
 ·intro h;rw[h];rfl
theorem Xk(q:Rat):aO q⁻¹≤aO q:=by
 by_cases h:q=0
 ·rw[h,Rat.inv_zero];exact Nat.le_refl _
 ·have hn:0<q.num.natAbs:=by
   have:q.num≠0:=fun e=>h (Rat.num_eq_zero.1 e)
   omega
  have e:=V7 (g:=decide (q.num<0)) (m:=q.num.natAbs) (e:=q.den) hn
  rw[wD]at e
  have h1:=my (Nat.div_le_self q.den (Nat.gcd q.den q.num.natAbs))
  have h2:=my (Nat.div_le_self q.num.natAbs (Nat.gcd q.den q.num.natAbs))
  rw[e]
  unfold aO
  rw[AU hn,yO hn];omega
theorem DX(p q:Rat):aO (p/q)≤aO p+aO q:=by
 rw[Rat.div_def]
 have h1:=vc p q⁻¹
 have h2:=Xk q
 omega
def Found(T:aq)(s k:Nat)(row:Int)(K:Heap)(ls:List Value):Prop:=
 (row = -1∧∀i,i<k→T.A i s≤0)∨∃r:Nat,row=(r:Int)∧r<k∧0<T.A r s∧bR K ls (T.A r T.n/T.A r s)∧
  ∀i,i<k→0<T.A i s→T.A r T.n/T.A r s<T.A i T.n/T.A i s∨(T.A r T.n/T.A r s=T.A i T.n/T.A i s∧T.B r≤T.B i)
section
variable {T:aq} {s k:Nat} {row:Int} {K K':Heap} {ls:List Value}
theorem Found.le(h:Found T s k row K ls)(hl:Heap.le K K'):Found T s k row K' ls:=by
 rcases h with h | ⟨r,h1,h2,h3,h4,h5⟩
 ·exact .inl h
 ·exact .inr ⟨r,h1,h2,h3,h4.le hl,h5⟩
theorem Found.skip(h:Found T s k row K ls)(hk:T.A k s≤0):Found T s (k+1) row K ls:=by
 rcases h with ⟨h1,h2⟩ | ⟨r,h1,h2,h3,h4,h5⟩
 ·exact .inl ⟨h1,fun i hi=>by
   by_cases e:i=k
   ·rw[e];exact hk
   ·exact h2 i (by omega)⟩
 ·exact .inr ⟨r,h1,by omega,h3,h4,fun i hi hp=>by
   by_cases e:i=k
   ·rw[e]at hp;grind
   ·exact h5 i (by omega) hp⟩
theorem Found.new{Xl:List Value}(h:Found T s k row K ls)(hk:0<T.A k s)(hn:bR K Xl (T.A k T.n/T.A k s))(hl:row = -1∨∀r:Nat,row=(r:Int)→T.A k T.n/T.A k s<T.A r T.n/T.A r s):Found T s (k+1) (k:Int) K Xl:=by
 refine .inr ⟨k,rfl,by omega,hk,hn,fun i hi hp=> ?_⟩
 by_cases e:i=k
 ·rw[e];exact .inr ⟨rfl,Nat.le_refl _⟩
 ·rcases h with ⟨h1,h2⟩ | ⟨r,h1,h2,h3,h4,h5⟩
  ·have:=h2 i (by omega);grind
  ·have h6:T.A k T.n/T.A k s<T.A r T.n/T.A r s:=by
    rcases hl with hl | hl
    ·omega
    ·exact hl r h1
   rcases h5 i (by omega) hp with h7 | h7
   ·left;grind
   ·left;rw[←h7.1];exact h6
theorem Found.tie(h:Found T s k row K ls)(hk:0<T.A k s){r:Nat}(hr:row=(r:Int))(he:T.A k T.n/T.A k s=T.A r T.n/T.A r s)(hB:T.B k<T.B r):Found T s (k+1) (k:Int) K ls:=by
 rcases h with ⟨h1,h2⟩ | ⟨r',h1,h2,h3,h4,h5⟩
 ·omega
 ·obtain rfl:r'=r:=by omega
  refine .inr ⟨k,rfl,by omega,hk,by rw[he];exact h4,fun i hi hp=> ?_⟩
  by_cases e:i=k
  ·rw[e];exact .inr ⟨rfl,Nat.le_refl _⟩
  ·rcases h5 i (by omega) hp with h7 | h7
   ·left;rw[he];exact h7
   ·right;exact⟨by rw[he];exact h7.1,by omega⟩
theorem Found.stay(h:Found T s k row K ls)(hk:0<T.A k s){r:Nat}(hr:row=(r:Int))(he:T.A r T.n/T.A r s<T.A k T.n/T.A k s∨(T.A r T.n/T.A r s=T.A k T.n/T.A k s∧T.B r≤T.B k)):Found T s (k+1) row K ls:=by
 rcases h with ⟨h1,h2⟩ | ⟨r',h1,h2,h3,h4,h5⟩
 ·omega
 ·obtain rfl:r'=r:=by omega
  refine .inr ⟨r',h1,by omega,h3,h4,fun i hi hp=> ?_⟩
  by_cases e:i=k
  ·rw[e];exact he
  ·exact h5 i (by omega) hp
end
theorem Xm{H:Heap}{G:TG}{L:TL}{T0:aq}{N:Nat}{I:aq→Prop}(h:dC H G L T0)(hc:iQ H G L T0)(hI:I T0)(Xn:∀S r s,I S→S.o0 L.u r s→I (S.pivot r s))(hinv:∀S,I S→S.WF∧S.j0∧Sz N S∧S.m=T0.m∧S.n=T0.n)
 (hN:(N:Int)≤137438953472) (hw:(L.w:Int)≤1000000) (hm:(T0.m:Int)≤1000000):
 Fn Tryz.prog 51 #[.pointer (some ⟨G.g,0,none⟩)] H (fun v H'=>∃T,I T∧dC H' G L T∧iQ H' G L T∧Heap.le (rem H G.gs) (rem H' G.gs)∧((v = .int .i64 (-1)∧∀j,j<L.u→0≤T.c j)∨∃s:Nat,v = .int .i64 (s:Int)∧s<L.u∧T.c s<0∧∀i,i<T.m→T.A i s≤0)):=by
 have mL:=h.uw;refine a7 (args:=[_]) Tryz.func51 rfl rfl Tryz.ntmps51 rfl rfl fun w0=> ?_;refine aj [0] rfl ?_;refine ag (ab 1 rfl (ae [0] ?_));refine aF (J8 (γ:=aq) (aq.Step L.u) (fun(T:aq)=>put (emp) 0 (.val (.pointer (some ⟨G.g,0,none⟩)))) (fun(T:aq) H'=>dC H' G L T∧iQ H' G L T∧I T∧Heap.le (rem H G.gs) (rem H' G.gs)) (T0) ((by obtain⟨h1,h2,_⟩:=hinv T0 hI;exact aq.PS h1 h2 (by rw[h.n];exact mL))) ar (⟨h,hc,hI,.refl _⟩) ?_);rintro T H1 ⟨h1,iq,GL,fh⟩;obtain⟨PR,Bi,cK,Xo,Qm⟩:=hinv T GL;have hTw:T.n=L.w:=h1.n
 have af9:(T.m:Int)≤1000000:=by rw[Xo];exact hm
 refine aF (ag (ab 1 rfl (ae [0,3] ?_)));refine kE (fun(k:Nat)=>put (put (emp) 0 (.val (.pointer (some ⟨G.g,0,none⟩)))) 3 (.val (.int .i64 (k:Int)))) (fun(k:Nat) H'=>Kept G.gs H1 H'∧((k=L.u∧∀j,j<L.u→0≤T.c j)∨(k<L.u∧T.c k<0∧∀j,j<k→0≤T.c j))) ?_ ?_
 ·
  refine aF (gG (fun(k:Nat)=>L.u-k) (fun(k:Nat)=>put (put (emp) 0 (.val (.pointer (some ⟨G.g,0,none⟩)))) 3 (.val (.int .i64 (k:Int)))) (fun(k:Nat) H'=>Kept G.gs H1 H'∧k≤L.u∧∀j,j<k→0≤T.c j) 0 (⟨.refl _ _,Nat.zero_le _,fun j hj=>by omega⟩) ar ?_);rintro k H2 ⟨fN,Ly,tg⟩;have h2:=h1.kept fN;have nu:=iq.kept fN;refine ao ?_
  by_cases bI:k<L.u
  ·
   obtain⟨gc,cc,GJ,bh,BD⟩:=id nu;obtain⟨xc,nc,dc,bc,nT,yC,tI⟩:=BD.rd (dJ (show k<L.w+1 by omega))
   have pc:cell H2 ((⟨G.g,0,none⟩:Addr).add 7)=some (.slice (some ⟨gc,0,none⟩) (L.w+1) cc):=by rw[←bh];exact h2.cell rfl
   have Qn:=cK.c k (by omega);refine ag (ab 3 rfl (aU ah rfl rfl rfl (aS ah rfl rfl rfl (h2.cell rfl) (aI true rfl rfl (jK (by omega)) (ab 3 rfl (aU ah rfl rfl rfl (aS ah rfl rfl rfl (pc) (ab 1 rfl (ck (vs:=[.int .i64 nc,.int .i64 dc,.pointer bc]) ah rfl rfl rfl rfl nT rfl (by decide) tI (by omega) (by omega) fun _=>(aE rfl rfl (Fn.l0 h2.ne (tE yC (by omega))) ?_))))))))));rintro v3 H3 ⟨dt,gO,rfl⟩;refine ab 2 rfl (ae [0,3,25] ?_);refine aC rfl (fun hb=> ?_) (fun hb=> ?_)
   ·
    have hb:0≤T.c k:=GK.1 (by simpa using hb);refine aA (aj [0,3] rfl ?_);refine aF (aB rfl (ab 1 rfl (aG rfl rfl ⟨by omega,by omega⟩ (ab 1 rfl (aw ?_)))));exact⟨k+1,by omega,ar,fN.trans dt,by omega,fun j hj=>by by_cases e:j=k;(rw[e];exact hb);exact tg j (by omega)⟩
   have hb:T.c k<0:=Lx.1 (by simpa using hb);refine aV ?_;exact⟨k,ar,fN.trans dt,.inr ⟨bI,hb,tg⟩⟩
  ·
   skip
   refine ag (ab 3 rfl (aU ah rfl rfl rfl (aS ah rfl rfl rfl (h2.cell rfl) (aI false rfl rfl (ik (by omega)) (ab 11 rfl (ae [0,3,25] ?_))))));refine dU rfl (aV ?_);exact⟨k,ar,fN,.inl ⟨by omega,fun j hj=>tg j (by omega)⟩⟩
 ·
  rintro k H3 ⟨dt,Xp⟩;have h3:=h1.kept dt;have u0:=iq.kept dt;refine ao (ag (ab 3 rfl (aU ah rfl rfl rfl (aS ah rfl rfl rfl (h3.cell rfl) (ab 1 rfl (ae [0,3,33] ?_))))));refine aC rfl (fun hb=> ?_) (fun hb=> ?_)
  ·
   have hb:k=L.u:=by simp at hb;omega
   have gW:∀j,j<L.u→0≤T.c j:=by
    rcases Xp with h5 | h5
    ·exact h5.2
    ·omega
   refine ag (ab 1 rfl (ae [2] ?_));refine aD ⟨.inr rfl,_,.tmp rfl (.nil),?_⟩;exact⟨T,GL,h3,u0,fh.trans dt.le,.inl ⟨rfl,gW⟩⟩
  have hb:k≠L.u:=by simp at hb;omega
  obtain⟨bI,fY,tg⟩:k<L.u∧T.c k<0∧∀j,j<k→0≤T.c j:=by
   rcases Xp with h5 | h5
   ·omega
   ·exact h5
  refine aA (aj [0,3] rfl ?_);refine ag (ab 1 rfl (ae [0,3,4] ?_));refine ag (bt fg rfl (ae [0,3,4,5] ?_));refine ao (ag (ab 2 rfl (aU ah rfl rfl rfl (aS ah rfl rfl rfl (h3.cell rfl) (ab 2 rfl (ae [0,3,4,5,37,38,39] ?_))))));refine aF (fZ (fun(q:Nat)(row:Int)(ls:Int×Int×Option Addr)=>T.m-q) (fun(q:Nat)(row:Int)(ls:Int×Int×Option Addr)=>put (put (put (put (put (put (put (emp) 0 (.val (.pointer (some ⟨G.g,0,none⟩)))) 3 (.val (.int .i64 (k:Int)))) 4 (.val (.int .i64 row))) 5 (.box [.int .i64 ls.1,.int .i64 ls.2.1,.pointer ls.2.2])) 37 (.val (.slice G.Ar T.m G.cr))) 38 (.val (.int .i64 (T.m:Int)))) 39 (.val (.int .i64 (q:Int)))) (fun(q:Nat)(row:Int)(ls:Int×Int×Option Addr) H'=>Kept G.gs H3 H'∧q≤T.m∧Found T k q row (rem H' G.gs) [.int .i64 ls.1,.int .i64 ls.2.1,.pointer ls.2.2]) 0 (-1) (0,0,none) (⟨.refl _ _,Nat.zero_le _,.inl ⟨rfl,fun i hi=>by omega⟩⟩) ar ?_);rintro q row ls H4 ⟨gj,tj,GM⟩;have h4:=h3.kept gj;refine ag (ab 1 rfl (ae [0,3,4,5,37,38,39,40] ?_));refine ao (aC rfl (fun hb=> ?_) (fun hb=> ?_))
  ·
   have LA:q<T.m:=by simpa using hb
   obtain⟨pq,ni⟩:=h1.get LA;obtain⟨xs4,BC,lV⟩:=h4.rows;obtain⟨xk,nk,dk,bk,Lu,GI,Lv⟩:=(h4.row q pq ni).rd (dJ (show k<L.w+1 by omega));obtain⟨xw,nw,dw,bw,GN,oA,GO⟩:=(h4.row q pq ni).rd (dJ (show L.w<L.w+1 by omega));have Qn:=cK.A q LA k (by omega);have kC:=cK.A q LA L.w (by omega);refine aA (aj [0,3,4,5,37,38,39] rfl ?_);refine ao (aF (ag (ab 1 rfl (aQ ah rfl rfl rfl rfl rfl (BC.le (bE _ _)) (by rw[Int.toNat_natCast];exact lV q pq ni) (by omega) (by omega) fun _=> ?_))));refine ab 2 rfl (ae [0,3,4,5,6,7,37,38,39] ?_);refine ao (ag (ab 2 rfl (ck (vs:=[.int .i64 nk,.int .i64 dk,.pointer bk]) ah rfl rfl rfl rfl Lu rfl (by decide) (by rw[Int.toNat_natCast];exact Lv) (by omega) (by omega) fun _=> ?_)));refine aE rfl rfl (Fn.l0 h4.ne (tE GI (by omega))) ?_;rintro v5 H5 ⟨mI,fI,rfl⟩;have h5:=h4.kept mI;refine ab 1 rfl (ae [0,3,4,5,6,7,37,38,39,49] ?_);refine aC rfl (fun hb=> ?_) (fun hb=> ?_)
   ·
    have hb:T.A q k≤0:=Qk.1 (by simpa using hb);refine aV (aj [0,3,4,5,37,38,39] rfl ?_);refine aB rfl (aG rfl rfl ⟨by omega,by omega⟩ (ab 1 rfl (aw ?_)));exact⟨q+1,row,ls,by omega,ar,gj.trans mI,by omega,(GM.le mI.le).skip hb⟩
   have wU:0<T.A q k:=by
    have:¬gZ (T.A q k)≤0:=by simpa using hb
    rw[Qk]at this;grind
   refine aA (aj [0,3,4,5,6,7,37,38,39] rfl ?_);refine bO .bL [0,1,2,3,4,5,6,7,8,9,10,11,12,13] follows (by kernel_rfl) ?_;refine ab 3 rfl (aU ah rfl rfl rfl (aS ah rfl rfl rfl (h5.iR) (ck (vs:=[.int .i64 nw,.int .i64 dw,.pointer bw]) ah rfl rfl rfl rfl (GN.le fI) rfl (by decide) (by rw[Int.toNat_natCast];exact GO) (by omega) (by omega) fun _=> ?_)));refine ab 2 rfl (ck (vs:=[.int .i64 nk,.int .i64 dk,.pointer bk]) ah rfl rfl rfl rfl (Lu.le fI) rfl (by decide) (by rw[Int.toNat_natCast];exact Lv) (by omega) (by omega) fun _=> ?_);refine bm rfl rfl (Fn.lB h5.ne (W0 (N:=N) (oA.le mI.le) (GI.le mI.le) kC Qn (by omega) (by grind))) (fun _ _ h=>by first | exact h.le | exact h.1) ?_;rintro v6 H6 ⟨qK,rV,nq,dq,bq,rfl,Qo⟩;have h6:=h5.kept qK;have hsq:=DX (T.A q L.w) (T.A q k);rw[←hTw]at Qo hsq kC;have Xq:=(GM.le mI.le).le qK.le;refine bt fg rfl ?_;obtain⟨ti,ak,al⟩:=cI;refine aH (.inl ⟨rfl,rfl⟩) rfl rfl rfl ak al rfl rfl rfl (ae [0,3,4,5,6,8,37,38,39] ?_);refine aF (kE (fun(bz:Bool)=>put (put (put (put (put (put (put (put (put (put (emp) 0 (.val (.pointer (some ⟨G.g,0,none⟩)))) 3 (.val (.int .i64 (k:Int)))) 4 (.val (.int .i64 row))) 5 (.box [.int .i64 ls.1,.int .i64 ls.2.1,.pointer ls.2.2])) 6 (.val (.int .i64 (q:Int)))) 8 (.box [.int .i64 nq,.int .i64 dq,.pointer bq])) 37 (.val (.slice G.Ar T.m G.cr))) 38 (.val (.int .i64 (T.m:Int)))) 39 (.val (.int .i64 (q:Int)))) 62 (.val (.bool bz))) (fun(bz:Bool) H'=>Kept G.gs H6 H'∧(bz=true→row = -1∨∀r:Nat,row=(r:Int)→T.A q T.n/T.A q k<T.A r T.n/T.A r k)∧(bz=false→∃r:Nat,row=(r:Int)∧r<q∧¬T.A q T.n/T.A q k<T.A r T.n/T.A r k)) ?_ ?_)
   ·
    refine ag (ab 3 rfl (ae [0,3,4,5,6,8,37,38,39,62] ?_));refine aC rfl (fun hb=> ?_) (fun hb=> ?_)
    ·
     have iJ:row<0:=by simpa using hb
     refine aA ?_;exact⟨_,ar,.refl _ _,fun _=> .inl (by rcases GM with hx | hx;exact hx.1;obtain⟨r,hr,_⟩:=hx;omega),fun e=>by rw[hb]at e;cases e⟩
    have iJ:¬row<0:=by simpa using hb
    obtain⟨r1,DY,Xr,aga,rW,_⟩:∃r:Nat,row=(r:Int)∧r<q∧0<T.A r k∧bR (rem H6 G.gs) [.int .i64 ls.1,.int .i64 ls.2.1,.pointer ls.2.2] (T.A r T.n/T.A r k)∧True:=by
     rcases Xq with hx | ⟨r,h1,h2,h3,h4,_⟩
     ·omega
     ·exact⟨r,h1,h2,h3,h4,trivial⟩
    have DZ:=DX (T.A r1 T.n) (T.A r1 k);have lR:=cK.A r1 (by omega) T.n (by omega);have pT:=cK.A r1 (by omega) k (by omega);refine aB rfl (ab 2 rfl (aE rfl rfl (Fn.lB h6.ne (DP (N:=2*N) Qo rW (by omega) (by omega) (by omega))) ?_));rintro va Ha ⟨nU,jy,na,da,ba,rfl,zd⟩;have hss:=tv (T.A q T.n/T.A q k) (T.A r1 T.n/T.A r1 k);refine aE rfl rfl (Fn.l0 (nU.ne h6.ne) (tE zd (by omega))) ?_;rintro vb Hb ⟨qL,eo,rfl⟩;refine ab 2 rfl (aw ?_);exact⟨_,ar,nU.trans qL,fun e=> .inr fun r hr=>(by have:=Lx.1 (of_decide_eq_true e);obtain rfl:r=r1:=(by omega);grind),fun e=>⟨r1,DY,Xr,fun bI=>of_decide_eq_false e (Lx.2 (by grind))⟩⟩
   rintro bz H7 ⟨tJ,fE,iJ⟩;have h7:=h6.kept tJ;have LB:=((gj.trans mI).trans qK).trans tJ;have GP:=Xq.le tJ.le;have Qs:=Qo.le tJ.le;refine aC rfl (fun hb=> ?_) (fun hb=> ?_)
   ·
    skip
    refine eu .bL [0,1,2,3] follows (by kernel_rfl) ?_;refine vr 3 ?_;obtain⟨ti,ak,al⟩:=cI;refine aH (.inl ⟨rfl,rfl⟩) rfl rfl rfl ak al rfl rfl rfl (aw (aj [0,3,4,5,37,38,39] rfl ?_));refine aB rfl (aG rfl rfl ⟨by omega,by omega⟩ (ab 1 rfl (aw ?_)));exact⟨q+1,(q:Int),(nq,dq,bq),by omega,ar,LB,by omega,GP.new wU Qs (fE hb)⟩
   obtain⟨r1,DY,Xr,amw⟩:=iJ hb
   obtain⟨aga,rW⟩:0<T.A r1 k∧bR (rem H7 G.gs) [.int .i64 ls.1,.int .i64 ls.2.1,.pointer ls.2.2] (T.A r1 T.n/T.A r1 k):=by
    rcases GP with hx | ⟨r,h1,h2,h3,h4,_⟩
    ·omega
    ·
     obtain rfl:r=r1:=by omega
     exact⟨h3,h4⟩
   have DZ:=DX (T.A r1 T.n) (T.A r1 k);have lR:=cK.A r1 (by omega) T.n (by omega);have pT:=cK.A r1 (by omega) k (by omega);have hss:=tv (T.A q T.n/T.A q k) (T.A r1 T.n/T.A r1 k)
   obtain⟨gb,cb,sz,lx,dh,bx⟩:∃gb cb sz,G.bb = [gb]∧G.bv = .slice (some ⟨gb,0,none⟩) T.m cb∧H7 gb=some ⟨eL T.B T.m,sz,3,true⟩:=by
    rcases h7.basis with h8 | h8
    ·
     have:=h8.1
     omega
    ·exact h8
   have Lw:gb∈G.gs:=TG.mK (by rw[lx];exact List.mem_singleton.2 rfl)
   by_cases heq:T.A q T.n/T.A q k=T.A r1 T.n/T.A r1 k
   ·
    skip
    refine bO .bL [0,1,2,3,4,5,6,7,8,9,10,11,12,13,14,15,16,17,18,19,20,21,22] follows (by kernel_rfl) ?_;refine ab 2 rfl (bm rfl rfl (Fn.lB h7.ne (DP (N:=2*N) Qs rW (by omega) (by omega) (by omega))) (fun _ _ h=>by first | exact h.le | exact h.1) ?_);rintro va Ha ⟨nU,jy,na,da,ba,rfl,zd⟩;refine bm rfl rfl (Fn.l0 (nU.ne h7.ne) (tE zd (by omega))) (fun _ _ h=>by first | exact h.le | exact h.1) ?_;rintro vb Hb ⟨qL,eo,rfl⟩;have h8:=(h7.kept nU).kept qL
    have zi:cell Hb ((⟨G.g,0,none⟩:Addr).add 8)=some (.slice (some ⟨gb,0,none⟩) T.m cb):=by rw[←dh];exact h8.cell rfl
    have fV:Rd Hb (some ⟨gb,0,none⟩) (eL T.B T.m):=dS (by rw[qL.same gb Lw,nU.same gb Lw];exact bx);refine aI true rfl rfl (jY (zh.2 (by rw[heq];grind))) ?_;refine ab 3 rfl (aU ah rfl rfl rfl (aS ah rfl rfl rfl (zi) (ab 1 rfl (aQ ah rfl rfl rfl rfl rfl (fV) (by rw[Int.toNat_natCast];exact gI LA) (by omega) (by omega) fun _=> ?_))));refine ab 2 rfl (aU ah rfl rfl rfl (aS ah rfl rfl rfl (zi) (ab 1 rfl (aQ ah rfl rfl rfl rfl rfl (fV) (by rw[DY,Int.toNat_natCast];exact gI (by omega)) (by omega) (by omega) fun _=> ?_))));refine ab 3 rfl (ae [0,3,4,5,6,37,38,39,72] ?_);refine aC rfl (fun hb=> ?_) (fun hb=> ?_)
    ·
     have hB:T.B q<T.B r1:=by simp at hb;omega
     refine aB rfl (ab 2 rfl (aw (aj [0,3,4,5,37,38,39] rfl ?_)));refine aB rfl (aG rfl rfl ⟨by omega,by omega⟩ (ab 1 rfl (aw ?_)));exact⟨q+1,(q:Int),ls,by omega,ar,(LB.trans nU).trans qL,by omega,((GP.le nU.le).le qL.le).tie wU DY heq hB⟩
    have hB:T.B r1≤T.B q:=by simp at hb;omega
    refine aA (aj [0,3,4,5,37,38,39] rfl ?_);refine aB rfl (aG rfl rfl ⟨by omega,by omega⟩ (ab 1 rfl (aw ?_)));exact⟨q+1,row,ls,by omega,ar,(LB.trans nU).trans qL,by omega,((GP.le nU.le).le qL.le).stay wU DY (.inr ⟨heq.symm,hB⟩)⟩
   skip
   refine bO .bL [0,1,2,3,4,5,6,7,8,9,10,11,12,13,14,15,16,17,18,19,20,21,22] follows (by kernel_rfl) ?_;refine ab 2 rfl (bm rfl rfl (Fn.lB h7.ne (DP (N:=2*N) Qs rW (by omega) (by omega) (by omega))) (fun _ _ h=>by first | exact h.le | exact h.1) ?_);rintro va Ha ⟨nU,jy,na,da,ba,rfl,zd⟩;refine bm rfl rfl (Fn.l0 (nU.ne h7.ne) (tE zd (by omega))) (fun _ _ h=>by first | exact h.le | exact h.1) ?_;rintro vb Hb ⟨qL,eo,rfl⟩;refine aI false rfl rfl (ln (fun e=>heq (by have:=zh.1 e;grind))) ?_;refine ab 18 rfl (ae [0,3,4,5,6,37,38,39,72] ?_);refine dU rfl (aA (aj [0,3,4,5,37,38,39] rfl ?_));refine aB rfl (aG rfl rfl ⟨by omega,by omega⟩ (ab 1 rfl (aw ?_)));exact⟨q+1,row,ls,by omega,ar,(LB.trans nU).trans qL,by omega,((GP.le nU.le).le qL.le).stay wU DY (.inl (by grind))⟩
  have hb:T.m≤q:=by simpa using hb
  obtain rfl:q=T.m:=by omega
  have Xs:=dt.trans gj;refine aV (aj [0,3,4] rfl ?_);refine ao (ag (ab 2 rfl (ae [0,3,4,98] ?_)));refine aC rfl (fun hb=> ?_) (fun hb=> ?_)
  ·
   have iJ:row<0:=by simpa using hb
   have gW:∀i,i<T.m→T.A i k≤0:=by
    rcases GM with hx | ⟨r,hr,_⟩
    ·exact hx.2
    ·omega
   refine ag (ab 2 rfl (ae [2] ?_));refine aD ⟨.inr rfl,_,.tmp rfl (.nil),?_⟩;exact⟨T,GL,h4,u0.kept gj,fh.trans Xs.le,.inr ⟨k,rfl,bI,fY,gW⟩⟩
  have iJ:¬row<0:=by simpa using hb
  obtain⟨rr,nA,j8,l4,nB⟩:∃r:Nat,row=(r:Int)∧r<T.m∧0<T.A r k∧∀i,i<T.m→0<T.A i k→T.A r T.n/T.A r k<T.A i T.n/T.A i k∨(T.A r T.n/T.A r k=T.A i T.n/T.A i k∧T.B r≤T.B i):=by
   rcases GM with hx | ⟨r,h1,h2,h3,_,h5⟩
   ·omega
   ·exact⟨r,h1,h2,h3,h5⟩
  have kG:T.o0 L.u rr k:=⟨bI,fY,tg,j8,l4,nB⟩;obtain⟨_,_,agb,_,_⟩:=hinv _ (Xn _ _ _ GL kG);refine aA (aj [0,3,4] rfl ?_);refine aB rfl (ab 3 rfl (aE rfl rfl (by rw[nA];exact Xi (N:=N) h4 (u0.kept gj) j8 (by omega) (by grind) cK agb (by omega) hw af9) ?_));rintro v9 H9 ⟨h9,GQ,GR⟩;refine aw ?_;exact⟨T.pivot rr k,⟨rr,k,kG,rfl⟩,ar,h9,GQ,Xn _ _ _ GL kG,(fh.trans Xs.le).trans GR⟩
end Go.au
namespace Go.au
open Go.Proofs Num Lp
structure GS(K H:Heap)(G:TG)(L:TL)(T:aq):Prop where
 kh:Heap.le K H
 cell:∀(k:Nat)(v:Value),(G.cells L.w L.u T.m)[k]? = some v→au.cell H ((⟨G.g,0,none⟩:Addr).add k)=some v
 rows:∃xs,Rd H G.Ar xs∧∀i,i<T.m→∃p:Nat×Nat,xs[i]? = some (.slice (some ⟨p.1,0,none⟩) (L.w+1) p.2)∧lA K H p.1 (aK (T.A i) (L.w+1))
 basis:T.m=0∨∃gb cb,G.bv = .slice (some ⟨gb,0,none⟩) T.m cb∧Rd H (some ⟨gb,0,none⟩) (eL T.B T.m)
 Xt:T.m=0→∃A c,G.bv = .slice A 0 c
 plus:aR vj 1 H G.pv L.plus
 minus:aR Bx 1 H G.mv L.minus
 eG:aR vj 1 H G.uv L.eG
 j7:aR bR 3 K G.sv L.j7
theorem dC.w{H0 K H:Heap}{G:TG}{L:TL}{T:aq}(h:dC H0 G L T)(hle:Heap.le (rem H0 G.gs) K)(hk:Heap.le K H)(hs:∀q,q∈G.gs→H q=H0 q):GS K H G L T where
 kh:=hk
 cell:=fun k v hv=>by
  have:=hs _ G.rT
  simp[au.cell,iN,this,h.st,hv]
 rows:=by
  obtain⟨xs,h1,h2⟩:=h.rows
  refine⟨xs,h1.le (hle.trans hk),fun i hi=> ?_⟩
  obtain⟨p,hp⟩:=h.get hi
  exact⟨p,h2 i p hp,(h.row i p hp).le hle (hs _ (TG.gJ hp))⟩
 basis:=by
  rcases h.basis with h1 | ⟨gb,cb,sz,h1,h2,h3⟩
  ·exact .inl h1.1
  ·exact .inr ⟨gb,cb,h2,dS (by rw[hs _ (TG.mK (by rw[h1];exact List.mem_singleton.2 rfl))];exact h3)⟩
 Xt:=fun hm=>by
  rcases h.basis with h1 | ⟨gb,cb,sz,h1,h2,h3⟩
  ·exact⟨none,0,h1.2.2⟩
  ·exact⟨_,cb,by rw[h2,hm]⟩
 plus:=(h.plus.le mJ hle).le mJ hk
 minus:=(h.minus.le vk hle).le vk hk
 eG:=(h.eG.le mJ hle).le mJ hk
 j7:=h.j7.le jh hle
theorem dC.self{H:Heap}{G:TG}{L:TL}{T:aq}(h:dC H G L T):GS (rem H G.gs) H G L T:=h.w (.refl _) (bE _ _) (fun _ _=>rfl)
theorem GS.bv{K H:Heap}{G:TG}{L:TL}{T:aq}(h:GS K H G L T):∃A c,G.bv = .slice A T.m c∧Rd H A (eL T.B T.m):=by
 rcases h.basis with h1 | ⟨gb,cb,h1,h2⟩
 ·obtain⟨A,c,h2⟩:=h.Xt h1
  refine⟨A,c,by rw[h1];exact h2,fun i v hv=> ?_⟩
  rw[h1]at hv
  simp[eL]at hv
 ·exact⟨_,cb,h1,h2⟩
theorem aR.one{α:Type}{P:Heap→List Value→α→Prop}{H:Heap}{v:Value}{l:List α}(h:aR P 1 H v l):∃A c xs,v = .slice A l.length c∧Rd H A xs∧∀(i:Nat)(a:α),l[i]? = some a→∃u,xs[i]? = some u∧P H [u] a:=by
 obtain⟨A,c,xs,h1,_,h3,h4⟩:=h
 exact⟨A,c,xs,h1,h3,fun i a ha=>h4.one ha⟩
theorem aR.num{H:Heap}{v:Value}{l:List Rat}(h:aR bR 3 H v l):∃A c xs,v = .slice A l.length c∧Rd H A xs∧∀(i:Nat)(q:Rat),l[i]? = some q→∃n d b,bR H [.int .i64 n,.int .i64 d,.pointer b] q∧∀(j:Nat)(u:Value),[.int .i64 n,.int .i64 d,.pointer b][j]? = some u→xs[i*3+j]? = some u:=by
 obtain⟨A,c,xs,h1,_,h3,h4⟩:=h
 refine⟨A,c,xs,h1,h3,fun i q hq=> ?_⟩
 obtain⟨vs,_,h5,h6⟩:=h4.get hq
 obtain⟨n,d,b,rfl⟩:=h5.cells
 exact⟨n,d,b,h5,h6⟩
structure ft(gs:List Nat)(H0 H:Heap)(z:Nat)(xs:List Value)(sz e:Nat):Prop where
 az:H z=some ⟨xs,sz,e,true⟩
 zn:H0 z=none
 zg:¬z∈gs
 le:Heap.le (rem H0 gs) (rem H (z::gs))
 same:∀q,q∈gs→H q=H0 q
section
variable {gs:List Nat} {H0 H H':Heap} {z:Nat} {xs qi:List Value} {sz e:Nat}
theorem ft.new(hn:∀q,q∈gs→H0 q≠none)(hz:H0 z=none):ft gs H0 (ins H0 z ⟨xs,sz,e,true⟩) z xs sz e:=
 ⟨bD _ _ _,hz,fun h=>hn z h hz,by rw[rN _ hz];exact .refl _,fun q hq=>a6 _ _ (fun e=>hn q hq (by rw[e];exact hz))⟩
theorem ft.ne(h:ft gs H0 H z xs sz e)(hn:∀q,q∈gs→H0 q≠none):∀q,q∈z::gs→H q≠none:=fun q hq=>by
 rcases List.mem_cons.1 hq with rfl | hq
 ·rw[h.az];simp
 ·rw[h.same q hq];exact hn q hq
theorem ft.kept(h:ft gs H0 H z xs sz e)(k:Kept (z::gs) H H'):ft gs H0 H' z xs sz e:=
 ⟨by rw[k.same z (List.mem_cons_self ..)];exact h.az,h.zn,h.zg,h.le.trans k.le,fun q hq=>(k.same q (List.mem_cons_of_mem _ hq)).trans (h.same q hq)⟩
theorem ft.set(h:ft gs H0 H z xs sz e){en:Ent}(he:en=⟨qi,sz,e,true⟩):ft gs H0 (ins H z en) z qi sz e:=
 ⟨by rw[bD,he],h.zn,h.zg,by rw[cF _ (List.mem_cons_self ..)];exact h.le,fun q hq=>by rw[a6 _ _ (fun(e':q=z)=>h.zg (by rw[←e'];exact hq))];exact h.same q hq⟩
theorem ft.hle(h:ft gs H0 H z xs sz e):Heap.le H0 H:=fun g en hg=>by
 by_cases hm:g∈gs
 ·exact⟨en,by rw[h.same g hm];exact hg,.refl en⟩
 ·obtain⟨e',h1,h2⟩:=h.le g en (by rw[bM hm];exact hg)
  obtain⟨Ol,h3,h4⟩:=bE H (z::gs) g e' h1
  exact⟨Ol,h3,h2.trans h4⟩
theorem ft.done(h:ft gs H0 H z xs sz e):Kept gs H0 H∧Heap.le (rem H (z::gs)) (rem H gs):=⟨⟨h.le.trans (Ba H z gs),h.same⟩,Ba H z gs⟩
theorem ft.rd(h:ft gs H0 H z xs sz e):Rd (rem H gs) (some ⟨z,0,none⟩) xs:=fun i v hv=>⟨_,rfl,by simp[au.cell,iN,bM h.zg,h.az,hv]⟩
theorem ft.tab{H:Heap}{G:TG}{L:TL}{T:aq}(ht:dC H0 G L T)(h:ft G.gs H0 H z xs sz e):GS (rem H (z::G.gs)) H G L T:=ht.w h.le (bE _ _) h.same
end
structure D3{α:Type}(P:Heap→List Value→α→Prop)(s:Nat)(gs:List Nat)(H:Heap)(l:List α)(v:Value)(H':Heap):Prop where
 kept:Kept gs H H'
 le:Heap.le H H'
 val:aR P s (rem H' gs) v l
theorem Fn.LC{α:Type}{P:Heap→List Value→α→Prop}{s:Nat}{Q:Program}{f:FuncId}{args:Array Value}{H:Heap}{gs:List Nat}{l:List α}(jM:∀g,g∈gs→H g≠none)(h:Fn Q f args (rem H gs) (P4 P s (rem H gs) l)):Fn Q f args H (D3 P s gs H l):=
 (Fn.frame jM h).mono fun v H' hf=>⟨.of hf fun v K hp=>hp.1,hf.le fun v K hp=>hp.1,hf.post.2⟩
structure FrZ(gs:List Nat)(H:Heap)(n:Nat)(v:Value)(H':Heap):Prop where
 le:Heap.le H H'
 val:∃z xs,v = .slice (some ⟨z,0,none⟩) n n∧ft gs H H' z xs (n*3) 90∧∀K:Heap,bC (bR K) 3 xs (aK (fun _=>0) n)
theorem agc(n:Nat):aK (fun _=>0) n=List.replicate n 0:=by
 apply List.ext_getElem?
 intro i
 by_cases h:i<n
 ·rw[dJ h,List.getElem?_replicate,if_pos h]
 ·rw[List.getElem?_eq_none (by rw[bg];omega),List.getElem?_eq_none (by rw[List.length_replicate];omega)]
theorem GV{H:Heap}{gs:List Nat}(jM:∀g,g∈gs→H g≠none){n:Nat}(hn:(n:Int)≤8796093022208):Fn Tryz.prog 56 #[.int .i64 (n:Int)] H (FrZ gs H n):=
 (afL hn).mono fun v H' ⟨g,xs,h1,h2,h3,h4⟩=>by
  rw[List.length_replicate]at h2 h3
  refine⟨by rw[h3];exact Heap.bB _ h1,g,xs,h2,by rw[h3];exact .new jM h1,fun K=>by rw[agc];exact h4 K⟩
def bV(f:Nat→Rat)(k:Nat)(q:Rat)(j:Nat):Rat:=if j=k then q else f j
theorem Qt{f:Nat→Rat}{n k:Nat}{q:Rat}:(aK f n).set k q=aK (bV f k q) n:=by
 apply List.ext_getElem?
 intro j
 by_cases hj:j<n
 ·by_cases e:j=k
  ·subst e
   rw[List.getElem?_set_self (by rw[bg];exact hj),dJ hj];simp[bV]
  ·rw[List.getElem?_set_ne (fun e'=>e e'.symm),dJ hj,dJ hj];simp[bV,e]
 ·rw[List.getElem?_eq_none (by rw[List.length_set,bg];omega),List.getElem?_eq_none (by rw[bg];omega)]
theorem rX{K:Heap}{xs vs:List Value}{f:Nat→Rat}{n k:Nat}{q:Rat}(h:bC (bR K) 3 xs (aK f n))(hk:k<n)(hv:bR K vs q):bC (bR K) 3 (aL xs (k*3) vs) (aK (bV f k q) n):=by
 rw[←Qt];exact h.set (by rw[bg];exact hk) hv hv.len
theorem pd{xs vs:List Value}{s e k sz:Nat}:({(⟨xs,s,e,true⟩:Ent)with xs:=aL xs (0+k*sz) vs}:Ent)=⟨aL xs (k*sz) vs,s,e,true⟩:=by rw[Nat.zero_add]
end Go.au
namespace Go.au
open Go.Proofs Num Lp
theorem agd{u k:Nat}(h:u≤k)(j:Nat):aq.jB u (k+1) j=bV (aq.jB u k) k 1 j:=by
 unfold bV aq.jB
 by_cases e:j=k
 ·rw[if_pos (by omega),if_pos e]
 ·rw[if_neg e]
  by_cases e2:u≤j∧j<k
  ·rw[if_pos (by omega)];simp only[e2,and_self,if_true]
  ·rw[if_neg (by omega)];simp only[e2,if_false]
theorem Xu{H:Heap}{G:TG}{L:TL}{T:aq}(h:dC H G L T)(hc:iQ H G L T)(hs:(aO (T.c L.w):Int)≤1099511627776):
 Fn Tryz.prog 52 #[.pointer (some ⟨G.g,0,none⟩)] H (Xc G.gs H (-(T.c L.w))):=by
 obtain⟨gc,cc,GJ,bh,BD⟩:=id hc
 obtain⟨xc,nc,dc,bc,nT,yC,tI⟩:=BD.rd (dJ (show L.w<L.w+1 by omega))
 have pc:cell H ((⟨G.g,0,none⟩:Addr).add 7)=some (.slice (some ⟨gc,0,none⟩) (L.w+1) cc):=by rw[←bh];exact h.cell rfl
 refine a7 (args:=[_]) Tryz.func52 rfl rfl Tryz.ntmps52 rfl rfl fun w0=> ?_;refine aj [0] rfl ?_;refine ag (bt fg rfl (ae [0,2] ?_));refine bO .bL [0,1,2,3,4,5,6,7,8,9,10,11] follows (by kernel_rfl) ?_;refine ab 2 rfl (aU ah rfl rfl rfl (aS ah rfl rfl rfl (pc) (ab 2 rfl (aU ah rfl rfl rfl (aS ah rfl rfl rfl (h.iR) (ck (vs:=[.int .i64 nc,.int .i64 dc,.pointer bc]) ah rfl rfl rfl rfl nT rfl (by decide) (by rw[Int.toNat_natCast];exact tI) (by omega) (by omega) fun _=> ?_))))));refine bm rfl rfl (Fn.lB h.ne (DJ yC hs)) (fun _ _ h=>by first | exact h.le | exact h.1) ?_;rintro v1 H1 ⟨gE,cH,n1,d1,b1,rfl,cB⟩;obtain⟨ti,ak,al⟩:=cI;refine aH (.inl ⟨rfl,rfl⟩) rfl rfl rfl ak al rfl rfl rfl (ae [2] ?_);obtain⟨bQ,aM,aN⟩:=cI;refine aD ⟨.inr rfl,_,.agg rfl Tryz.underlying90 aM aN (.nil),?_⟩;exact⟨gE,cH,n1,d1,b1,rfl,cB⟩
theorem Xv{H:Heap}{G:TG}{L:TL}{T:aq}(h:dC H G L T)(hw:(L.w:Int)≤1000000):
 Fn Tryz.prog 50 #[.pointer (some ⟨G.g,0,none⟩)] H (D3 bR 3 G.gs H (aK (aq.jB L.u L.w) L.w)):=by
 have mL:=h.uw;refine a7 (args:=[_]) Tryz.func50 rfl rfl Tryz.ntmps50 rfl rfl fun w0=> ?_;refine aj [0] rfl ?_;refine ag (ab 1 rfl (ae [0] ?_));refine ag (ab 2 rfl (aU ah rfl rfl rfl (aS ah rfl rfl rfl (h.iR) (aE rfl rfl (GV h.ne (by omega)) ?_))));rintro v1 H1 ⟨cH,z,xs,rfl,kI,iw⟩;have gq:=kI.tab h;refine ab 1 rfl (ae [0,3] ?_);refine ao (ag (ab 2 rfl (aU ah rfl rfl rfl (aS ah rfl rfl rfl (gq.cell 1 _ rfl) (ab 1 rfl (ae [0,3,4] ?_))))));refine aF (gX (fun(k:Nat)(xs:List Value)=>L.w-k) (fun(k:Nat)(xs:List Value)=>put (put (put (emp) 0 (.val (.pointer (some ⟨G.g,0,none⟩)))) 3 (.val (.slice (some ⟨z,0,none⟩) L.w L.w))) 4 (.val (.int .i64 (k:Int)))) (fun(k:Nat)(xs:List Value) H'=>ft G.gs H H' z xs (L.w*3) 90∧(∀K:Heap,bC (bR K) 3 xs (aK (aq.jB L.u k) L.w))∧L.u≤k∧k≤L.w) L.u xs (⟨kI,fun K=>by rw[lz (g:=fun _=>0) (fun j _=>by unfold aq.jB;rw[if_neg (by omega)])];exact iw K,Nat.le_refl _,mL⟩) ar ?_);rintro k xs H2 ⟨eM,kU,LD,hkw⟩;have lT:=eM.tab h;have cP:=(kU H).len;rw[bg]at cP;refine ao (ag (ab 3 rfl (aU ah rfl rfl rfl ?_)))
 refine aS ah rfl rfl rfl (by have:=lT.cell 0 _ rfl;rwa [iN]at this) ?_;refine ab 1 rfl (ae [0,3,4,19] ?_);refine aC rfl (fun hb=> ?_) (fun hb=> ?_)
 ·
  have hb:k<L.w:=by simpa using hb
  refine aA (aj [0,3,4] rfl ?_);refine ao (aF (aB rfl (ab 2 rfl (aE rfl rfl (wR) ?_))));rintro v3 H3 ⟨e3,rfl⟩;rw[e3];obtain⟨ti,ak,al⟩:=cI;refine cQ (.inl rfl) ah rfl rfl rfl (by omega) (by omega) (eM.az) rfl (by show 0+L.w*3≤xs.length;omega) ak al (fun _=>rfl) rfl rfl rfl fun _=> ?_;refine aw (aj [0,3,4] rfl ?_);refine aB rfl (ab 1 rfl (aG rfl rfl ⟨by omega,by omega⟩ (ab 1 rfl (aw ?_))));exact⟨k+1,aL xs (k*3) [.int .i64 1,.int .i64 1,.pointer none],by omega,ar,eM.set pd,fun K=>by rw[lz (g:=bV (aq.jB L.u k) k 1) (fun j _=>agd LD j)];exact rX (kU K) hb (wQ K (n:=1) (by decide) (by decide)),by omega,by omega⟩
 ·
  have hb:L.w≤k:=by simpa using hb
  obtain rfl:k=L.w:=by omega
  refine aV (aj [3] rfl ?_);refine ag (ab 2 rfl (ae [2] ?_));refine aD ⟨.inr rfl,_,.tmp rfl (.nil),?_⟩;exact⟨eM.done.1,eM.hle,some ⟨z,0,none⟩,L.w,xs,by rw[bg];rfl,by rw[bg];exact Nat.le_refl _,eM.rd,kU _⟩
theorem age{H:Heap}{G:TG}{L:TL}{T0:aq}{N:Nat}{J:Nat→aq→Prop}(h:dC H G L T0)(hc:iQ H G L T0)(hJ:J 0 T0)(Xw:∀k S,J k S→k<S.m→(S.B k<L.u∨∀j,j<L.u→S.A k j=0)→J (k+1) S)
 (agf:∀k S s,J k S→k<S.m→L.u≤S.B k→s<L.u→S.A k s≠0→J (k+1) (S.pivot k s)) (hinv:∀k S,J k S→Sz N S∧S.m=T0.m∧S.n=T0.n) (hN:(N:Int)≤137438953472) (hw:(L.w:Int)≤1000000) (hm:(T0.m:Int)≤1000000):
 Fn Tryz.prog 55 #[.pointer (some ⟨G.g,0,none⟩)] H (fun _ H'=>∃T,J T0.m T∧dC H' G L T∧iQ H' G L T∧Heap.le (rem H G.gs) (rem H' G.gs)):=by
 have mL:=h.uw
 obtain⟨Ab,cb,dh,_⟩:=h.self.bv
 have zi:cell H ((⟨G.g,0,none⟩:Addr).add 8)=some (.slice Ab T0.m cb):=by rw[←dh];exact h.cell rfl
 refine a7 (args:=[_]) Tryz.func55 rfl rfl Tryz.ntmps55 rfl rfl fun w0=> ?_;refine aj [0] rfl ?_;refine ag (ab 2 rfl (aU ah rfl rfl rfl (aS ah rfl rfl rfl (zi) (ab 2 rfl (ae [0,8,9,10] ?_)))));refine aF (gX (fun(k:Nat)(T:aq)=>T0.m-k) (fun(k:Nat)(T:aq)=>put (put (put (put (emp) 0 (.val (.pointer (some ⟨G.g,0,none⟩)))) 8 (.val (.slice Ab T0.m cb))) 9 (.val (.int .i64 (T0.m:Int)))) 10 (.val (.int .i64 (k:Int)))) (fun(k:Nat)(T:aq) H'=>dC H' G L T∧iQ H' G L T∧J k T∧Heap.le (rem H G.gs) (rem H' G.gs)∧k≤T0.m) 0 T0 (⟨h,hc,hJ,.refl _,Nat.zero_le _⟩) ar ?_);rintro k T H1 ⟨h1,iq,GW,fh,gE⟩;obtain⟨cK,Xo,Qm⟩:=hinv k T GW;obtain⟨A2,c2,GX,Gl⟩:=h1.self.bv;rw[dh]at GX
 obtain⟨rfl,-,rfl⟩:Ab=A2∧T0.m=T.m∧cb=c2:=by simpa using GX
 refine ag (ab 1 rfl (ae [0,8,9,10,11] ?_));refine ao (aC rfl (fun hb=> ?_) (fun hb=> ?_))
 ·
  have lD:k<T0.m:=by simpa using hb
  have BE:k<T.m:=by omega
  obtain⟨pk,qI⟩:=h1.get BE;refine aA (aj [0,8,9,10] rfl ?_);refine ao (aF (ag (ab 1 rfl (aQ ah rfl rfl rfl rfl rfl (Gl) (by rw[Int.toNat_natCast];exact gI BE) (by omega) (by omega) fun _=> ?_))));refine ab 2 rfl (ae [0,2,3,8,9,10] ?_);refine ao (ag (ab 3 rfl (aU ah rfl rfl rfl (aS ah rfl rfl rfl (h1.cell rfl) (ab 1 rfl (ae [0,2,8,9,10,20] ?_))))));refine aC rfl (fun hb=> ?_) (fun hb=> ?_)
  ·
   have hb:T.B k<L.u:=by simp at hb;omega
   refine aV (aj [0,8,9,10] rfl ?_);refine aB rfl (aG rfl rfl ⟨by omega,by omega⟩ (ab 1 rfl (aw ?_)));exact⟨k+1,T,by omega,ar,h1,iq,Xw k T GW BE (.inl hb),fh,by omega⟩
  ·
   have hBu:L.u≤T.B k:=by simp at hb;omega
   refine aA (aj [0,2,8,9,10] rfl ?_);refine ag (ab 2 rfl (aU ah rfl rfl rfl (aS ah rfl rfl rfl (h1.cell rfl) (ab 1 rfl (ae [0,2,8,9,10,24,25] ?_)))));refine aF (gG (fun(j:Nat)=>L.u-j) (fun(j:Nat)=>put (put (put (put (put (put (put (emp) 0 (.val (.pointer (some ⟨G.g,0,none⟩)))) 2 (.val (.int .i64 (k:Int)))) 8 (.val (.slice Ab T0.m cb))) 9 (.val (.int .i64 (T0.m:Int)))) 10 (.val (.int .i64 (k:Int)))) 24 (.val (.int .i64 (L.u:Int)))) 25 (.val (.int .i64 (j:Int)))) (fun(j:Nat) H'=>Kept G.gs H1 H'∧j≤L.u∧∀i,i<j→T.A k i=0) 0 (⟨.refl _ _,Nat.zero_le _,fun i hi=>by omega⟩) ar ?_);rintro j H3 ⟨dt,hju,rY⟩;have h3:=h1.kept dt;refine ag (ab 1 rfl (ae [0,2,8,9,10,24,25,26] ?_));refine ao (aC rfl (fun hb=> ?_) (fun hb=> ?_))
   ·
    have Xx:j<L.u:=by simpa using hb
    obtain⟨Qu,w9,gA⟩:=h3.rows;obtain⟨xj,nj,dj,bj,hrj,hnj,Xy⟩:=(h3.row k pk qI).rd (dJ (show j<L.w+1 by omega));have Xz:=cK.A k BE j (by rw[h1.n];omega);refine aA (aj [0,2,8,9,10,24,25] rfl ?_);refine ao (aF (ag (ab 2 rfl (ae [0,2,4,8,9,10,24,25] ?_))));refine ag (ab 2 rfl (aU ah rfl rfl rfl (aS ah rfl rfl rfl (h3.cell rfl) (ab 1 rfl (aQ ah rfl rfl rfl rfl rfl (w9.le (bE _ _)) (by rw[Int.toNat_natCast];exact gA k pk qI) (by omega) (by omega) fun _=> ?_)))));refine ab 1 rfl (ck (vs:=[.int .i64 nj,.int .i64 dj,.pointer bj]) ah rfl rfl rfl rfl hrj rfl (by decide) (by rw[Int.toNat_natCast];exact Xy) (by omega) (by omega) fun _=> ?_);refine aE rfl rfl (Fn.l0 h3.ne (tE hnj (by omega))) ?_;rintro v4 H4 ⟨gj,dW,rfl⟩;have h4:=h3.kept gj;refine ab 1 rfl (ae [0,2,4,8,9,10,24,25,39] ?_);refine aC rfl (fun hb=> ?_) (fun hb=> ?_)
    ·
     have XA:T.A k j≠0:=fun e=>by rw[e]at hb;simp[gZ]at hb
     have XB:=agf k T j GW BE hBu Xx XA;obtain⟨XC,_,_⟩:=hinv _ _ XB;refine ag (ab 3 rfl (aE rfl rfl (Xi (N:=N) h4 ((iq.kept dt).kept gj) BE (by omega) XA cK XC (by omega) hw (by omega)) ?_));rintro v5 H5 ⟨h5,mM,iO⟩;refine ae [0,8,9,10] ?_;refine aV (aj [0,8,9,10] rfl ?_);refine aB rfl (aG rfl rfl ⟨by omega,by omega⟩ (ab 1 rfl (aw ?_)));exact⟨k+1,T.pivot k j,by omega,ar,h5,mM,XB,(fh.trans (dt.trans gj).le).trans iO,by omega⟩
    have hb:T.A k j=0:=tH (by simpa using hb);refine aA (aj [0,2,8,9,10,24,25] rfl ?_);refine aB rfl (aG rfl rfl ⟨by omega,by omega⟩ (ab 1 rfl (aw ?_)));exact⟨j+1,by omega,ar,dt.trans gj,by omega,fun i hi=>by by_cases e:i=j;(rw[e];exact hb);exact rY i (by omega)⟩
   have hb:L.u≤j:=by simpa using hb
   obtain rfl:j=L.u:=by omega
   refine aV (aj [0,8,9,10] rfl ?_);refine aB rfl (aG rfl rfl ⟨by omega,by omega⟩ (ab 1 rfl (aw ?_)));exact⟨k+1,T,by omega,ar,h3,iq.kept dt,Xw k T GW BE (.inr rY),fh.trans dt.le,by omega⟩
 ·
  have hb:T0.m≤k:=by simpa using hb
  obtain rfl:k=T0.m:=by omega
  refine aV ?_;refine⟨.inl rfl,_,.nil,?_⟩;exact⟨T,GW,h1,iq,fh⟩
end Go.au
