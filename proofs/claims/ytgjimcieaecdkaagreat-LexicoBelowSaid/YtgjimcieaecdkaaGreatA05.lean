/- Part 5 of the proof: Num3, Bd, TDat, Tab1, TDat2, Tab2, Tab3, TDat3. -/
import Derived.Test.YtgjimcieaecdkaaGreatA04
set_option linter.unusedVariables false
namespace Go.ar
open Go.Proofs Num Lp
def gy{α:Type}(P:Heap→List Value→α→Prop)(H:Heap)(vs:List Value):Option α→Prop
 | some a=>P H vs a
 | none=>True
theorem gy.up{α:Type}{P:Heap→List Value→α→Prop}(up:Up P):Up (gy P):=fun H H' vs a hl h=>by
 cases a with
 | none=>trivial
 | some a=>exact up H H' vs a hl h
def fill{α:Type}(l:List α)(k:Nat):List (Option α):=(l.take k).map some++List.replicate (l.length-k) none
section
variable {α:Type} {l:List α} {k:Nat}
theorem xL(h:k≤l.length):(fill l k).length=l.length:=by simp[fill];omega
theorem WO:fill l 0=List.replicate l.length none:=by simp[fill]
theorem xM{a:α}(h:l[k]? = some a):(fill l k).set k (some a)=fill l (k+1):=by
 have hk:=(List.getElem?_eq_some_iff.1 h).1
 apply List.ext_getElem?
 intro i
 by_cases e:i=k
 ·subst e
  rw[List.getElem?_set_self (by rw[xL (by omega)];omega)]
  unfold fill
  rw[List.getElem?_append_left (by simp;omega),List.getElem?_map,List.getElem?_take,if_pos (by omega),h];rfl
 ·rw[List.getElem?_set_ne (fun e'=>e e'.symm)]
  unfold fill
  by_cases h1:i<k
  ·rw[List.getElem?_append_left (by simp;omega),List.getElem?_append_left (by simp;omega),List.getElem?_map,List.getElem?_map,List.getElem?_take,List.getElem?_take,if_pos h1,if_pos (by omega)]
  ·rw[List.getElem?_append_right (by simp;omega),List.getElem?_append_right (by simp;omega),List.getElem?_replicate,List.getElem?_replicate]
   simp only[List.length_map,List.length_take]
   by_cases h2:i<l.length
   ·rw[if_pos (by omega),if_pos (by omega)]
   ·rw[if_neg (by omega),if_neg (by omega)]
theorem WQ:fill l l.length=l.map some:=by simp[fill]
theorem El{P:Heap→List Value→α→Prop}{H:Heap}{sz:Nat}{xs:List Value}(h:bg (gy P H) sz xs (fill l l.length)):bg (P H) sz xs l:=by
 rw[WQ]at h
 refine⟨by simpa using h.len,fun i a ha=> ?_⟩
 exact h.at_ i (some a) (by rw[List.getElem?_map,ha];rfl)
end
theorem z6{α:Type}{P:Heap→List Value→α→Prop}{H:Heap}{zs:List Value}{sz:Nat}(hz:zs.length=sz)(l:List α):bg (gy P H) sz (cA zs (l.length*sz)) (fill l 0):=by
 rw[WO]
 exact HW (P:=gy P H) (a:=none) hz trivial _
theorem fi:Up aZ:=aZ.up
def bJ(N:Nat)(H:Heap)(vs:List Value)(q:Rat):Prop:=bL H (.agg vs.toArray) q N
theorem cD(N:Nat):Up (bJ N):=fun _ _ _ _ hl h=>bL.le h hl
def fy(H:Heap)(vs:List Value)(q:Rat):Prop:=dI H (.agg vs.toArray) q
theorem gZ:Up fy:=fun _ _ _ _ hl h=>dI.le h hl
theorem xN{vs:List Value}{a b c:Value}(h:Value.agg vs.toArray = .agg #[a,b,c]):vs = [a,b,c]:=by
 simp only[Value.agg.injEq]at h
 have:=congrArg Array.toList h
 simpa using this
theorem bJ.cells{N:Nat}{H:Heap}{vs:List Value}{q:Rat}(h:bJ N H vs q):∃f A m c A' m' c',vs = [.bool f,.slice A m c,.slice A' m' c']:=by
 obtain⟨f,u,w,l1,l2,h1,⟨A,c,rfl,_,_⟩,⟨A',c',rfl,_,_⟩,_⟩:=h
 exact⟨f,A,_,c,A',_,c',xN h1⟩
theorem fy.rat{H:Heap}{vs:List Value}{q:Rat}{N:Nat}(h:fy H vs q)(hs:aK q≤N):bJ N H vs q:=bL.mono (dI.raw h) hs
theorem aZ.cells{H:Heap}{vs:List Value}{q:Rat}(h:aZ H vs q):∃n d b,vs = [.int .i64 n,.int .i64 d,.pointer b]:=by
 obtain⟨n,d,b,h,_⟩:=h;exact⟨n,d,b,h⟩
theorem WR(H:Heap)(g:Nat)(xs vs:List Value)(s e k sz:Nat):ins (ins H g ⟨xs,s,e,true⟩) g {(⟨xs,s,e,true⟩:aG)with xs:=aC xs (0+k*sz) vs}=ins H g ⟨aC xs (k*sz) vs,s,e,true⟩:=by
 rw[rX,Nat.zero_add]
theorem re{H:Heap}{g:Nat}{xs:List Value}{s e:Nat}{b:Bool}(h:H g=some ⟨xs,s,e,b⟩):Rd H (some ⟨g,0,none⟩) xs:=fun i v hv=>⟨_,rfl,by simp[cell,jd,h,hv]⟩
theorem s4{q:Rat}(h:fK q=0):q=0:=by
 unfold fK at h
 split at h
 ·omega
 ·split at h
  ·assumption
  ·omega
theorem NW:aK 0=1:=by
 unfold aK
 show max (ah 0).length (ah 1).length=1
 rw[oH,qW];rfl
theorem WS{f g:Nat→Rat}{s n:Nat}(hf:∀k,k<n→aK (f k)≤s∧aK (g k)≤s):∀k,k≤n→aK (aP k (fun j=>f j*g j))≤k*(2*s+1)+1:=by
 intro k
 induction k with
 | zero=>intro _;rw[sT,NW];omega
 | succ k ih=>
  intro hk
  have h1:=ih (by omega)
  have h2:=pU (f k) (g k)
  have h3:=HX (aP k (fun j=>f j*g j)) (f k*g k)
  have h4:=hf k (by omega)
  rw[eu,Nat.add_mul]
  omega
theorem NX{l:List Rat}{s:Nat}(h:∀q,q∈l→aK q≤s){k:Nat}(hk:k<l.length):aK (fn l k)≤s:=by
 rw[iu (List.getElem?_eq_getElem hk)];exact h _ (List.getElem_mem hk)
def WT(H:Heap)(l:List Rat)(v:Value)(H':Heap):Prop:=∃g xs,H g=none∧v = .slice (some ⟨g,0,none⟩) l.length l.length∧H'=ins H g ⟨xs,l.length*3,61,true⟩∧∀K:Heap,bg (aZ K) 3 xs l
def It{α:Type}(P:Heap→List Value→α→Prop)(sz:Nat)(H:Heap)(l:List α)(v:Value)(H':Heap):Prop:=Heap.le H H'∧aH P sz H' v l
theorem WU{H:Heap}{n:Nat}(hn:(n:Int)≤8796093022208):
 Fn Tryz.prog 31 #[.int .i64 (n:Int)] H (WT H (List.replicate n 0)):=by
 refine aW (args:=[_]) Tryz.func31 rfl rfl Tryz.ntmps31 rfl rfl fun w0=> ?_;refine aj [0] rfl ?_;refine af (ab 1 rfl (ae [0] ?_));refine af (ab 1 rfl (iF Tryz.underlying56 dd rfl rfl rfl (by omega) (by omega) (by omega) (by omega) ?_));intro g hg;rw[show ((n:Int)).toNat=n from by omega]
 have hz:∀K:Heap,bg (gy aZ K) 3 (cA [.int .i64 0,.int .i64 0,.pointer none] (n*3)) (fill (List.replicate n (0:Rat)) 0):=fun K=>by have:=z6 (P:=aZ) (H:=K) (zs:=[.int .i64 0,.int .i64 0,.pointer none]) rfl (List.replicate n (0:Rat));rwa [List.length_replicate]at this
 refine ab 1 rfl (ae [3] ?_);refine aq (af (ab 3 rfl (ae [3,8,9] ?_)));refine aD (jS (fun(k:Nat)(xs:List Value)=>n-k) (fun(k:Nat)(xs:List Value)=>put (put (put (emp) 3 (.val (.slice (some ⟨g,0,none⟩) n n))) 8 (.val (.int .i64 (n:Int)))) 9 (.val (.int .i64 (k:Int)))) (fun(k:Nat)(xs:List Value) H'=>H'=ins H g ⟨xs,n*3,61,true⟩∧k≤n∧∀K:Heap,bg (gy aZ K) 3 xs (fill (List.replicate n (0:Rat)) k)) 0 _ (⟨rfl,Nat.zero_le _,hz⟩) ay ?_);rintro k xs H1 ⟨rfl,hk,he⟩;have j7:=xL (l:=List.replicate n (0:Rat)) (k:=k) (by simpa using hk);have cj:=(he H).len;rw[j7,List.length_replicate]at cj;refine af (ab 1 rfl (ae [3,8,9,10] ?_));refine aq (az rfl (fun hb=> ?_) (fun hb=> ?_))
 ·
  have hb:k<n:=by simpa using hb
  refine ax (aj [3,8,9] rfl ?_);refine aq (aD (af (ab 2 rfl (ae [3,4,8,9] ?_))));refine aF rfl (ab 2 rfl (au rfl rfl (oP) ?_));rintro v1 H1 ⟨e1,rfl⟩;rw[e1];obtain⟨ti,ak,al⟩:=bI;refine dP (.inl rfl) ag rfl rfl rfl (by omega) (by omega) (bx _ _ _) rfl (by show 0+n*3≤xs.length;omega) ak al (fun _=>rfl) rfl rfl rfl fun _=> ?_;refine aA (aj [3,8,9] rfl ?_);refine aF rfl (aO rfl rfl ⟨by omega,by omega⟩ (ab 1 rfl (aA ?_)));exact⟨k+1,_,by omega,ay,WR H g xs _ _ _ k 3,by omega,fun K=>by rw[←xM (a:=(0:Rat)) (by rw[List.getElem?_replicate,if_pos hb])];exact(he K).set (by rw[j7,List.length_replicate];exact hb) (oO K (n:=0) (by decide) (by decide)) rfl⟩
 ·
  have hb:n≤k:=by simpa using hb
  obtain rfl:k=n:=by omega
  refine bC (aj [3] rfl ?_);refine af (ab 2 rfl (ae [2] ?_));refine aw ⟨.inr rfl,_,.tmp rfl (.nil),?_⟩;refine⟨g,xs,hg,by rw[List.length_replicate];rfl,by rw[List.length_replicate],fun K=>El (l:=List.replicate k (0:Rat)) (by rw[List.length_replicate];exact he K)⟩
theorem Em{H:Heap}{v:Value}{l:List Rat}{N:Nat}(hv:aH (bJ N) 3 H v l)(hN:(N:Int)≤1099511627776)(hl:(l.length:Int)≤1099511627776):
 Fn Tryz.prog 32 #[v] H (It aZ 3 H l):=by
 obtain⟨A,c,ys,rfl,hc,hr,jG⟩:=hv;refine aW (args:=[_]) Tryz.func32 rfl rfl Tryz.ntmps32 rfl rfl fun w0=> ?_;refine aj [0] rfl ?_;refine af (ab 1 rfl (ae [0] ?_));refine af (ab 2 rfl (iF Tryz.underlying56 dd rfl rfl rfl (by omega) (by omega) (by omega) (by omega) ?_));intro g hg;rw[show ((l.length:Int)).toNat=l.length from by omega];have hz:bg (gy aZ (rem (ins H g ⟨cA [.int .i64 0,.int .i64 0,.pointer none] (l.length*3),l.length*3,61,true⟩) [g])) 3 (cA [.int .i64 0,.int .i64 0,.pointer none] (l.length*3)) (fill l 0):=z6 (sz:=3) (by rfl) l;refine ab 1 rfl (ae [0,3] ?_);refine aq (af (ab 3 rfl (ae [3,9,10,11] ?_)));refine aD (jS (fun(k:Nat)(xs:List Value)=>l.length-k) (fun(k:Nat)(xs:List Value)=>put (put (put (put (emp) 3 (.val (.slice (some ⟨g,0,none⟩) l.length l.length))) 9 (.val (.slice A l.length c))) 10 (.val (.int .i64 (l.length:Int)))) 11 (.val (.int .i64 (k:Int)))) (fun(k:Nat)(xs:List Value) H'=>Heap.le H (rem H' [g])∧H' g=some ⟨xs,l.length*3,61,true⟩∧k≤l.length∧bg (gy aZ (rem H' [g])) 3 xs (fill l k)) 0 _ (⟨by rw[q3 _ hg,pS];exact .refl _,bx _ _ _,Nat.zero_le _,hz⟩) ay ?_);rintro k xs H1 ⟨hle,vj,hk,he⟩;have j7:=xL (l:=l) (k:=k) hk;have cj:=he.len
 rw[j7]at cj;have lk:=hle.trans (bn H1 [g]);refine af (ab 1 rfl (ae [3,9,10,11,12] ?_));refine aq (az rfl (fun hb=> ?_) (fun hb=> ?_))
 ·
  have hb:k<l.length:=by simpa using hb
  obtain⟨q,gA⟩:∃q,l[k]? = some q:=⟨_,List.getElem?_eq_getElem hb⟩;obtain⟨vs,fG,oU,z7⟩:=jG.get gA;obtain⟨f,A1,m1,c1,A2,m2,c2,rfl⟩:=oU.cells;have Iu:bL (rem H1 [g]) _ q N:=bL.le oU hle;refine ax (aj [3,9,10,11] rfl ?_);refine aq (aD (af (ab 1 rfl (cS (vs:=[.bool f,.slice A1 m1 c1,.slice A2 m2 c2]) ag rfl rfl rfl rfl (hr.le lk) rfl (by decide) z7 (by omega) (by omega) fun _=>(bD cZ rfl (vr 1 ?_))))));obtain⟨ti,ak,al⟩:=bT;refine aM (.inl ⟨rfl,rfl⟩) rfl rfl rfl ak al rfl rfl rfl (ae [3,4,5,9,10,11] ?_);refine aF rfl (ab 3 rfl (au rfl rfl (Fn.frame (gs:=[g]) (fun q hq=>by simp only[List.mem_singleton]at hq;subst hq;rw[vj];simp) (D4 Iu hN)) ?_));rintro v2 H2 ⟨⟨cR,zT,rfl,bF⟩,jY⟩;obtain⟨n2,d2,b2,rfl,_⟩:=id bF;have dN:=(jY g (List.mem_singleton.2 rfl)).trans vj;obtain⟨ti,ak,al⟩:=bI;refine dP (.inl rfl) ag rfl rfl rfl (by omega) (by omega) (dN) rfl (by show 0+l.length*3≤xs.length;omega) ak al (fun _=>rfl) rfl rfl rfl fun _=> ?_;refine aA (aj [3,9,10,11] rfl ?_);refine aF rfl (aO rfl rfl ⟨by omega,by omega⟩ (ab 1 rfl (aA ?_)));refine⟨k+1,aC xs (k*3) [.int .i64 n2,.int .i64 d2,.pointer b2],by omega,ay,?_,?_,by omega,?_⟩
  ·rw[bZ _ (List.mem_singleton.2 rfl)];exact hle.trans cR
  ·rw[bx,Nat.zero_add];rfl
  ·
   rw[bZ _ (List.mem_singleton.2 rfl),←xM gA];exact(he.mono fun vs a=>gy.up fi _ _ vs a cR).set (by rw[j7];exact hb) bF rfl
 ·
  have hb:l.length≤k:=by simpa using hb
  obtain rfl:k=l.length:=by omega
  refine bC (aj [3] rfl ?_);refine af (ab 2 rfl (ae [2] ?_));refine aw ⟨.inr rfl,_,.tmp rfl (.nil),?_⟩;exact⟨hle.trans (bn _ _),some ⟨g,0,none⟩,l.length,xs,rfl,Nat.le_refl _,re vj,(El he).mono fun vs a=>fi _ _ vs a (bn _ _)⟩
theorem NY{H:Heap}{v:Value}{l:List Rat}(hv:aH aZ 3 H v l)(hN:∀q,q∈l→(aK q:Int)≤1099511627776)(hl:(l.length:Int)≤1099511627776):
 Fn Tryz.prog 65 #[v] H (It fy 3 H l):=by
 obtain⟨A,c,ys,rfl,hc,hr,jG⟩:=hv;refine aW (args:=[_]) Tryz.func65 rfl rfl Tryz.ntmps65 rfl rfl fun w0=> ?_;refine aj [0] rfl ?_;refine af (ab 1 rfl (ae [0] ?_));refine af (ab 2 rfl (iF Tryz.underlying26 cZ rfl rfl rfl (by omega) (by omega) (by omega) (by omega) ?_));intro g hg;rw[show ((l.length:Int)).toNat=l.length from by omega];have hz:bg (gy fy (rem (ins H g ⟨cA [.bool false,.slice none 0 0,.slice none 0 0] (l.length*3),l.length*3,29,true⟩) [g])) 3 (cA [.bool false,.slice none 0 0,.slice none 0 0] (l.length*3)) (fill l 0):=z6 (sz:=3) (by rfl) l;refine ab 1 rfl (ae [0,3] ?_);refine aq (af (ab 3 rfl (ae [3,9,10,11] ?_)));refine aD (jS (fun(k:Nat)(xs:List Value)=>l.length-k) (fun(k:Nat)(xs:List Value)=>put (put (put (put (emp) 3 (.val (.slice (some ⟨g,0,none⟩) l.length l.length))) 9 (.val (.slice A l.length c))) 10 (.val (.int .i64 (l.length:Int)))) 11 (.val (.int .i64 (k:Int)))) (fun(k:Nat)(xs:List Value) H'=>Heap.le H (rem H' [g])∧H' g=some ⟨xs,l.length*3,29,true⟩∧k≤l.length∧bg (gy fy (rem H' [g])) 3 xs (fill l k)) 0 _ (⟨by rw[q3 _ hg,pS];exact .refl _,bx _ _ _,Nat.zero_le _,hz⟩) ay ?_);rintro k xs H1 ⟨hle,vj,hk,he⟩;have j7:=xL (l:=l) (k:=k) hk
 have cj:=he.len;rw[j7]at cj;have lk:=hle.trans (bn H1 [g]);refine af (ab 1 rfl (ae [3,9,10,11,12] ?_));refine aq (az rfl (fun hb=> ?_) (fun hb=> ?_))
 ·
  have hb:k<l.length:=by simpa using hb
  obtain⟨q,gA⟩:∃q,l[k]? = some q:=⟨_,List.getElem?_eq_getElem hb⟩;obtain⟨vs,fG,oU,z7⟩:=jG.get gA;obtain⟨n1,d1,b1,rfl⟩:=oU.cells;have Iu:=oU.le hle;refine ax (aj [3,9,10,11] rfl ?_);refine aq (aD (af (ab 1 rfl (cS (vs:=[.int .i64 n1,.int .i64 d1,.pointer b1]) ag rfl rfl rfl rfl (hr.le lk) rfl (by decide) z7 (by omega) (by omega) fun _=>(bD dd rfl (vr 1 ?_))))));obtain⟨ti,ak,al⟩:=bI;refine aM (.inl ⟨rfl,rfl⟩) rfl rfl rfl ak al rfl rfl rfl (ae [3,4,5,9,10,11] ?_);refine aF rfl (ab 3 rfl (au rfl rfl (Fn.frame (gs:=[g]) (fun q hq=>by simp only[List.mem_singleton]at hq;subst hq;rw[vj];simp) (Nj Iu (hN q (List.mem_of_getElem? gA)))) ?_));rintro v2 H2 ⟨⟨cR,bF⟩,jY⟩;obtain⟨u2,w2,rfl,eo,jh⟩:=id bF;obtain⟨A2,c2,rfl,nI,kr⟩:=id eo;obtain⟨A3,c3,rfl,qX,mD⟩:=id jh;have dN:=(jY g (List.mem_singleton.2 rfl)).trans vj;obtain⟨ti,ak,al⟩:=bT;refine dP (.inl rfl) ag rfl rfl rfl (by omega) (by omega) (dN) rfl (by show 0+l.length*3≤xs.length;omega) ak al (fun _=>rfl) rfl rfl rfl fun _=> ?_;refine aA (aj [3,9,10,11] rfl ?_);refine aF rfl (aO rfl rfl ⟨by omega,by omega⟩ (ab 1 rfl (aA ?_)))
  refine⟨k+1,aC xs (k*3) [.bool (decide (q.num<0)),.slice A2 (ah q.num.natAbs).length c2,.slice A3 (ah q.den).length c3],by omega,ay,?_,?_,by omega,?_⟩
  ·rw[bZ _ (List.mem_singleton.2 rfl)];exact hle.trans cR
  ·rw[bx,Nat.zero_add];rfl
  ·
   rw[bZ _ (List.mem_singleton.2 rfl),←xM gA];exact(he.mono fun vs a=>gy.up gZ _ _ vs a cR).set (by rw[j7];exact hb) (show fy _ _ q from bF) rfl
 ·
  have hb:l.length≤k:=by simpa using hb
  obtain rfl:k=l.length:=by omega
  refine bC (aj [3] rfl ?_);refine af (ab 2 rfl (ae [2] ?_));refine aw ⟨.inr rfl,_,.tmp rfl (.nil),?_⟩;exact⟨hle.trans (bn _ _),some ⟨g,0,none⟩,l.length,xs,rfl,Nat.le_refl _,re vj,(El he).mono fun vs a=>gZ _ _ vs a (bn _ _)⟩
theorem WV{H:Heap}{u v:Value}{l1 l2:List Rat}{s:Nat}(hu:aH aZ 3 H u l1)(hv:aH aZ 3 H v l2)(hl:l1.length≤l2.length)(h1:∀q,q∈l1→aK q≤s)(h2:∀q,q∈l2→aK q≤s)(hs:((l1.length:Int)+2)*(2*s+2)≤1099511627776):
 Fn Tryz.prog 55 #[u,v] H (nJ H (a5 l1.length (fn l1) (fn l2))):=by
 obtain⟨A,c,ys,rfl,hc,hr,jG⟩:=hu
 obtain⟨A',c',ys',rfl,gF,cM,WW⟩:=hv
 have Ih:=WS (f:=fn l1) (g:=fn l2) (s:=s) (n:=l1.length) (fun k hk=>⟨NX h1 hk,NX h2 (by omega)⟩)
 have im:∀k,k≤l1.length→((k*(2*s+1)+1:Nat):Int)≤1099511627776:=fun k hk=>by
  have h3:k*(2*s+1)+1≤(l1.length+2)*(2*s+2):=by
   have h4:k*(2*s+1)≤l1.length*(2*s+2):=Nat.mul_le_mul hk (by omega)
   rw[Nat.add_mul];omega
  have h5:(((l1.length+2)*(2*s+2):Nat):Int)=((l1.length:Int)+2)*(2*s+2):=by push_cast;rfl
  omega
 have acU:(l1.length:Int)≤1099511627776:=by
  have h3:l1.length+2≤(l1.length+2)*(2*s+2):=Nat.le_mul_of_pos_right _ (by omega)
  have h5:(((l1.length+2)*(2*s+2):Nat):Int)=((l1.length:Int)+2)*(2*s+2):=by push_cast;rfl
  omega
 have jY:((2*(2*s+2):Nat):Int)≤1099511627776:=by
  have h3:2*(2*s+2)≤(l1.length+2)*(2*s+2):=Nat.mul_le_mul_right _ (by omega)
  have h5:(((l1.length+2)*(2*s+2):Nat):Int)=((l1.length:Int)+2)*(2*s+2):=by push_cast;rfl
  omega
 refine aW (args:=[_,_]) Tryz.func55 rfl rfl Tryz.ntmps55 rfl rfl fun w0=> ?_;refine aj [0,1] rfl ?_;refine af (bD dd rfl (ae [0,1,4] ?_));refine af (au rfl rfl (oP) ?_);rintro v1 H1 ⟨e1,rfl⟩;rw[e1];refine bD dd rfl ?_;obtain⟨ti,ak,al⟩:=bI;refine aM (.inl ⟨rfl,rfl⟩) rfl rfl rfl ak al rfl rfl rfl (ae [0,1,4,5] ?_);refine aq (af (ab 3 rfl (ae [1,4,5,9,10,11] ?_)));refine aD (nz (fun(k:Nat)(n5:Int)(d5:Int)(b5:Option Addr)=>l1.length-k) (fun(k:Nat)(n5:Int)(d5:Int)(b5:Option Addr)=>put (put (put (put (put (put (emp) 1 (.val (.slice A' l2.length c'))) 4 (.box [.int .i64 0,.int .i64 0,.pointer none])) 5 (.box [.int .i64 n5,.int .i64 d5,.pointer b5])) 9 (.val (.slice A l1.length c))) 10 (.val (.int .i64 (l1.length:Int)))) 11 (.val (.int .i64 (k:Int)))) (fun(k:Nat)(n5:Int)(d5:Int)(b5:Option Addr) H'=>Heap.le H H'∧k≤l1.length∧aZ H' [.int .i64 n5,.int .i64 d5,.pointer b5] (aP k (fun j=>fn l1 j*fn l2 j))) 0 0 1 none (⟨.refl _,Nat.zero_le _,oO H (n:=0) (by decide) (by decide)⟩) ay ?_);rintro k n5 d5 b5 H1 ⟨hle,hk,hn⟩;refine af (ab 1 rfl (ae [1,4,5,9,10,11,12] ?_));refine aq (az rfl (fun hb=> ?_) (fun hb=> ?_))
 ·
  have hb:k<l1.length:=by simpa using hb
  obtain⟨q,gA⟩:∃q,l1[k]? = some q:=⟨_,List.getElem?_eq_getElem hb⟩;obtain⟨vs,fG,oU,z7⟩:=jG.get gA;obtain⟨n1,d1,b1,rfl⟩:=oU.cells;obtain⟨q2,z8⟩:∃q,l2[k]? = some q:=⟨_,List.getElem?_eq_getElem (by omega)⟩;obtain⟨zT,acV,En,Iv⟩:=WW.get z8;obtain⟨n2,d2,b2,rfl⟩:=En.cells;have sN:=h1 q (List.mem_of_getElem? gA);have kX:=h2 q2 (List.mem_of_getElem? z8);have Eo:=Ih k hk;have acW:=im k hk;refine ax (aj [1,4,5,9,10,11] rfl ?_);refine aq (aD (af (ab 1 rfl (cS (vs:=[.int .i64 n1,.int .i64 d1,.pointer b1]) ag rfl rfl rfl rfl (hr.le hle) rfl (by decide) z7 (by omega) (by omega) fun _=>(bD dd rfl (vr 1 ?_))))));obtain⟨ti,ak,al⟩:=bI;refine aM (.inl ⟨rfl,rfl⟩) rfl rfl rfl ak al rfl rfl rfl (ae [1,4,5,6,7,9,10,11] ?_)
  by_cases jg:fK q=0
  ·
   skip
   refine af (ab 1 rfl (au rfl rfl (iK (oU.le hle) (by omega)) ?_));rintro v2 H2 ⟨ct,rfl⟩;refine aS false rfl rfl (wP jg) (ab 8 rfl (ae [1,4,5,6,7,9,10,11,26] ?_));have eY:=hle.trans ct
   have ep:aZ H2 [.int .i64 n5,.int .i64 d5,.pointer b5] (aP k (fun j=>fn l1 j*fn l2 j)+0):=by rw[Rat.add_zero];exact hn.le ct
   have hz:q*q2=0:=by rw[s4 jg,Rat.zero_mul]
   refine dG rfl (ax (aj [1,4,5,9,10,11] rfl ?_));refine aF rfl (aO rfl rfl ⟨by omega,by omega⟩ (ab 1 rfl (aA ?_)));exact⟨k+1,n5,d5,b5,by omega,ay,eY,by omega,by rw[eu,iu gA,iu z8,hz];exact ep⟩
  ·
   by_cases bQ:fK q2=0
   skip
   ·
    skip
    refine af (ab 1 rfl (au rfl rfl (iK (oU.le hle) (by omega)) ?_));rintro v2 H2 ⟨ct,rfl⟩;refine aS true rfl rfl (pL jg) (ab 3 rfl (cS (vs:=[.int .i64 n2,.int .i64 d2,.pointer b2]) ag rfl rfl rfl rfl (cM.le (hle.trans ct)) rfl (by decide) Iv (by omega) (by omega) fun _=>(au rfl rfl (iK (En.le (hle.trans ct)) (by omega)) ?_)));rintro v3 H3 ⟨fu,rfl⟩;refine aS false rfl rfl (wP bQ) (ab 1 rfl (ae [1,4,5,6,7,9,10,11,26] ?_));have eY:=(hle.trans ct).trans fu
    have ep:aZ H3 [.int .i64 n5,.int .i64 d5,.pointer b5] (aP k (fun j=>fn l1 j*fn l2 j)+0):=by rw[Rat.add_zero];exact hn.le (ct.trans fu)
    have hz:q*q2=0:=by rw[s4 bQ,Rat.mul_zero]
    refine dG rfl (ax (aj [1,4,5,9,10,11] rfl ?_));refine aF rfl (aO rfl rfl ⟨by omega,by omega⟩ (ab 1 rfl (aA ?_)));exact⟨k+1,n5,d5,b5,by omega,ay,eY,by omega,by rw[eu,iu gA,iu z8,hz];exact ep⟩
   skip
   refine af (ab 1 rfl (au rfl rfl (iK (oU.le hle) (by omega)) ?_));rintro v2 H2 ⟨ct,rfl⟩;refine aS true rfl rfl (pL jg) (ab 3 rfl (cS (vs:=[.int .i64 n2,.int .i64 d2,.pointer b2]) ag rfl rfl rfl rfl (cM.le (hle.trans ct)) rfl (by decide) Iv (by omega) (by omega) fun _=>(au rfl rfl (iK (En.le (hle.trans ct)) (by omega)) ?_)));rintro v3 H3 ⟨fu,rfl⟩;refine aS true rfl rfl (pL bQ) (ab 1 rfl (ae [1,4,5,6,7,9,10,11,26] ?_));have eY:=(hle.trans ct).trans fu;have ep:=hn.le (ct.trans fu);refine eL rfl (fc .bR [0,1,2,3,4,5,6,7,8] follows (by kernel_rfl) ?_);refine ab 4 rfl (cS (vs:=[.int .i64 n2,.int .i64 d2,.pointer b2]) ag rfl rfl rfl rfl (cM.le eY) rfl (by decide) Iv (by omega) (by omega) fun _=>(aT rfl rfl (vh (N:=s) (oU.le eY) (En.le eY) sN kX (by omega)) (fun _ _ h=>by first | exact h.le | exact h.1) ?_));rintro w3 G3 ⟨kv,WX,rfl,gx⟩;obtain⟨n3,d3,b3,rfl,_⟩:=id gx;have hzm:=pU q q2;obtain⟨M,Iw,WY,WZ⟩:∃M,aK (aP k (fun j=>fn l1 j*fn l2 j))≤M∧aK (q*q2)≤M∧(M:Int)≤1099511627776:=⟨max (k*(2*s+1)+1) (2*(2*s+2)),by omega,by omega,by omega⟩;refine aT rfl rfl (NU (N:=M) (ep.le kv) gx Iw WY WZ) (fun _ _ h=>by first | exact h.le | exact h.1) ?_
   rintro w4 G4 ⟨gK,vg,rfl,cJ⟩;obtain⟨n4,d4,b4,rfl,_⟩:=id cJ;obtain⟨ti,ak,al⟩:=bI;refine aM (.inl ⟨rfl,rfl⟩) rfl rfl rfl ak al rfl rfl rfl (aA (aj [1,4,5,9,10,11] rfl ?_));refine aF rfl (aO rfl rfl ⟨by omega,by omega⟩ (ab 1 rfl (aA ?_)));exact⟨k+1,n4,d4,b4,by omega,ay,eY.trans (kv.trans gK),by omega,by rw[eu,iu gA,iu z8];exact cJ⟩
 ·
  have hb:l1.length≤k:=by simpa using hb
  obtain rfl:k=l1.length:=by omega
  refine bC (aj [4,5] rfl ?_);refine af (vr 1 ?_);obtain⟨ti,ak,al⟩:=bI;refine aM (.inl ⟨rfl,rfl⟩) rfl rfl rfl ak al rfl rfl rfl (ae [4] ?_);obtain⟨bO,aI,aJ⟩:=bI;refine aw ⟨.inr rfl,_,.agg rfl Tryz.underlying61 aI aJ (.nil),?_⟩;exact⟨hle,_,rfl,hn⟩
end Go.ar
namespace Lp
namespace ao
def nP(T:ao)(j:Nat):Prop:=∃k,k<T.m∧T.B k=j
section
variable {T S:ao}
theorem NZ(hT:T.WF)(h:gp T S){i j:Nat}(hi:i<S.m)(hj:j≤T.n):S.A i j=aP T.m (fun k=>S.A i (T.B k)*T.A k j):=by
 have h1:=(h.kt _).2 (sU hT j hj) i hi
 rw[h.n,xq T hT.lt j hj]at h1
 grind
theorem W0(hT:T.WF)(h:gp T S){j:Nat}(hj:j≤T.n):S.c j=T.c j+aP T.m (fun k=>S.c (T.B k)*T.A k j):=by
 have h1:=h.cost _ (sU hT j hj)
 rw[xt hT j hj]at h1
 unfold cost at h1
 rw[h.n,xq T hT.lt j hj]at h1
 grind
theorem exchange(hT:T.WF)(hS:S.WF)(h:gp T S){i0:Nat}(hi:i0<S.m)(hn:¬T.nP (S.B i0)):∃r,r<T.m∧T.A r (S.B i0)≠0∧¬S.nP (T.B r):=by
 false_or_by_contra
 rename_i hc
 have a7:=hS.lt i0 hi
 have h1:=NZ hT h hi (j:=S.B i0) (by rw[h.n]at a7;omega)
 rw[hS.unit i0 i0 hi hi,if_pos rfl,ks]at h1
 ·grind
 ·intro k hk
  by_cases e:T.A k (S.B i0)=0
  ·rw[e];grind
  ·by_cases hb:S.nP (T.B k)
   ·obtain⟨i',eJ,e'⟩:=hb
    have a6:i0≠i':=fun e0=>hn ⟨k,hk,by rw[e0];exact e'.symm⟩
    rw[←e',hS.unit i' i0 eJ hi,if_neg a6];grind
   ·exact absurd ⟨k,hk,e,hb⟩ hc
open Classical in
noncomputable def mN(T S:ao):Nat:=(List.range S.m).countP fun i=>decide (¬T.nP (S.B i))
theorem W1{r s j:Nat}(h:T.nP j)(hj:j≠T.B r):(T.bP r s).nP j:=by
 obtain⟨k,hk,e⟩:=h
 refine⟨k,hk,?_⟩
 show (if k=r then s else T.B k)=j
 rw[if_neg (fun e'=>hj (by rw[←e,e'])),e]
theorem W2{r i0:Nat}(hr:r<T.m)(hi:i0<S.m)(hn:¬T.nP (S.B i0))(hb:¬S.nP (T.B r)):mN (T.bP r (S.B i0)) S<mN T S:=by
 unfold mN
 refine Nv _ _ _ (fun i lJ hd=> ?_) ⟨i0,List.mem_range.2 hi,?_,?_⟩
 ·simp only[decide_eq_true_eq]at hd⊢
  exact fun iE=>hd (W1 iE (fun e=>hb ⟨i,List.mem_range.1 lJ,e⟩))
 ·simp only[decide_eq_true_eq];exact hn
 ·simp only[decide_eq_false_iff_not,Classical.not_not]
  exact⟨r,hr,by show (if r=r then S.B i0 else T.B r)=_;rw[if_pos rfl]⟩
def cQ(D X:Nat)(q:Rat):Prop:=∃z:Int,q*(D:Rat)=(z:Rat)∧z.natAbs≤X
def jk(n j k z:Nat):Nat:=if j=n then k else z
structure W3(D0 f e D:Nat)(T:ao):Prop where
 pos:0<D
 le:D≤2^e
 A:∀i,i<T.m→∀j,j≤T.n→cQ (D*jk T.n j D0 1) (2^(e+jk T.n j f 0)) (T.A i j)
 c:∀j,j≤T.n→cQ (D*jk T.n j D0 1) (2^(e+jk T.n j f 0)) (T.c j)
def Bd(D0 f e:Nat)(T:ao):Prop:=∃D:Nat,W3 D0 f e D T
theorem xO{n j k z:Nat}(h:j<n):jk n j k z=z:=if_neg (by omega)
theorem s5{n k z:Nat}:jk n n k z=k:=if_pos rfl
theorem cQ.mono{D X Y:Nat}{q:Rat}(h:cQ D X q)(hl:X≤Y):cQ D Y q:=by
 obtain⟨z,h1,h2⟩:=h
 exact⟨z,h1,Nat.le_trans h2 hl⟩
theorem Bd.mono{D0 f e e':Nat}(h:Bd D0 f e T)(hl:e≤e'):Bd D0 f e' T:=by
 obtain⟨D,h1,h2,h3,h4⟩:=h
 have hp:∀k,2^(e+k)≤2^(e'+k):=fun k=>Nat.pow_le_pow_right (by decide) (by omega)
 exact⟨D,h1,Nat.le_trans h2 (hp 0),fun i hi j hj=>(h3 i hi j hj).mono (hp _),fun j hj=>(h4 j hj).mono (hp _)⟩
theorem natAbs_sub_le(a b:Int):(a-b).natAbs≤a.natAbs+b.natAbs:=by omega
theorem Ix{D K:Nat}{N z1 z2 z3:Int}{a b c d:Rat}{X Y:Nat}(hD:(D:Rat)≠0)(hN:(N:Rat)≠0)(h:d*(D:Rat)=(N:Rat))(h1:a*((D*K:Nat):Rat)=(z1:Rat))(h2:b*(D:Rat)=(z2:Rat))(h3:c*((D*K:Nat):Rat)=(z3:Rat))
  (k1:z1.natAbs≤Y) (k2:z2.natAbs≤X) (k3:z3.natAbs≤Y) (k:N.natAbs≤X):cQ (D*N.natAbs*K) (2*(X*Y)) (a-b*(c/d)):=by
 refine⟨N.sign*(z1*N-z2*z3),?_,?_⟩
 ·have e1:((D*N.natAbs*K:Nat):Rat)=(D:Rat)*((N.sign:Rat)*(N:Rat))*(K:Rat):=by
   have jE:(N.natAbs:Int)=N.sign*N:=by
    rcases Int.lt_trichotomy N 0 with h | h | h
    ·rw[Int.sign_eq_neg_one_of_neg h];omega
    ·subst h;rfl
    ·rw[Int.sign_eq_one_of_pos h];omega
   have:((N.natAbs:Int):Rat)=((N.sign*N:Int):Rat):=by rw[jE]
   rw[Rat.natCast_mul,Rat.natCast_mul]
   have h0:((N.natAbs:Nat):Rat)=((N.natAbs:Int):Rat):=rfl
   rw[h0,this,Rat.intCast_mul]
  have hd:d≠0:=fun e=>by rw[e]at h;grind
  rw[Rat.natCast_mul]at h1 h3
  rw[e1,Rat.intCast_mul,Rat.intCast_sub,Rat.intCast_mul,Rat.intCast_mul,←h1,←h2,←h3,←h]
  grind
 ·have hs:N.sign.natAbs≤1:=by
   rw[Int.natAbs_sign];split <;> omega
  rw[Int.natAbs_mul]
  have h4:=natAbs_sub_le (z1*N) (z2*z3)
  rw[Int.natAbs_mul,Int.natAbs_mul]at h4
  have h5:z1.natAbs*N.natAbs≤X*Y:=by rw[Nat.mul_comm];exact Nat.mul_le_mul k k1
  have h6:z2.natAbs*z3.natAbs≤X*Y:=Nat.mul_le_mul k2 k3
  have h7:N.sign.natAbs*(z1*N-z2*z3).natAbs≤1*(z1*N-z2*z3).natAbs:=Nat.mul_le_mul_right _ hs
  omega
theorem Iy(e f:Nat):2*(2^e*2^(e+f))=2^(2*e+1+f):=by
 rw[show 2*e+1+f=(e+(e+f))+1 by omega,Nat.pow_succ,Nat.pow_add 2 e (e+f),Nat.mul_comm]
theorem Bd.bP{D0 f e r s:Nat}(h:Bd D0 f e T)(hr:r<T.m)(hs:s<T.n)(hp:T.A r s≠0):Bd D0 f (2*e+1) (T.bP r s):=by
 obtain⟨D,h1,h2,h3,h4⟩:=h
 have one:∀{q:Rat},cQ (D*jk T.n s D0 1) (2^(e+jk T.n s f 0)) q→cQ D (2^e) q:=fun h=>by rwa [xO hs,xO hs,Nat.mul_one]at h
 obtain⟨N,hN,Ep⟩:=one (h3 r hr s (by omega))
 have hD:(D:Rat)≠0:=fun e=>by
  have:D=0:=by exact_mod_cast e
  omega
 have Er:(N:Rat)≠0:=by
  rw[←hN]
  intro e0
  rcases Rat.mul_eq_zero.1 e0 with h | h
  ·exact hp h
  ·exact hD h
 have hNz:N≠0:=fun e=>Er (by rw[e];rfl)
 refine⟨D*N.natAbs,Nat.mul_pos h1 (by omega),?_,fun i hi j hj=> ?_,fun j hj=> ?_⟩
 ·have:=Iy e 0
  rw[Nat.add_zero,Nat.add_zero]at this
  rw[←this]
  have:=Nat.mul_le_mul h2 Ep
  omega
 ·show cQ (D*N.natAbs*jk T.n j D0 1) (2^(2*e+1+jk T.n j f 0)) _
  rw[←Iy]
  obtain⟨z3,k3,l3⟩:=h3 r hr j hj
  show cQ _ _ (if i=r then T.A r j/T.A r s else T.A i j-T.A i s*(T.A r j/T.A r s))
  by_cases e':i=r
  ·rw[if_pos e']
   have e3:(-1:Rat)*(D:Rat)=((-(D:Int):Int):Rat):=by
    rw[Rat.intCast_neg]
    have:((D:Int):Rat)=(D:Rat):=rfl
    rw[this];grind
   have:=Ix (z1:=0) (a:=0) (z2:= -(D:Int)) (b:= -1) hD Er hN (by grind) e3 k3 (by omega) (by omega) l3 Ep
   have e2:(0:Rat) - -1*(T.A r j/T.A r s)=T.A r j/T.A r s:=by grind
   rwa [e2]at this
  ·rw[if_neg e']
   obtain⟨z1,k1,l1⟩:=h3 i hi j hj
   obtain⟨z2,k2,l2⟩:=one (h3 i hi s (by omega))
   exact Ix hD Er hN k1 k2 k3 l1 l2 l3 Ep
 ·show cQ (D*N.natAbs*jk T.n j D0 1) (2^(2*e+1+jk T.n j f 0)) _
  rw[←Iy]
  obtain⟨z3,k3,l3⟩:=h3 r hr j hj
  obtain⟨z1,k1,l1⟩:=h4 j hj
  obtain⟨z2,k2,l2⟩:=one (h4 s (by omega))
  exact Ix hD Er hN k1 k2 k3 l1 l2 l3 Ep
theorem reach{D0 f:Nat}(hS:S.WF):∀(k e:Nat)(T:ao),T.WF→gp T S→Bd D0 f e T→mN T S≤k→∃T':ao,T'.WF∧gp T' S∧(∀i,i<S.m→T'.nP (S.B i))∧Bd D0 f (2^k*(e+1)-1) T':=by
 intro k
 induction k with
 | zero=>
  intro e T hT h hb hc
  refine⟨T,hT,h,fun i hi=> ?_,by rw[Nat.pow_zero,Nat.one_mul];exact hb⟩
  false_or_by_contra
  rename_i hn
  have:0<mN T S:=by
   unfold mN
   exact List.countP_pos_iff.2 ⟨i,List.mem_range.2 hi,by simp only[decide_eq_true_eq];exact hn⟩
  omega
 | succ k ih=>
  intro e T hT h hb hc
  by_cases ha:∀i,i<S.m→T.nP (S.B i)
  ·refine⟨T,hT,h,ha,hb.mono ?_⟩
   have:1*(e+1)≤2^(k+1)*(e+1):=Nat.mul_le_mul_right _ Nat.one_le_two_pow
   omega
  ·obtain⟨i0,ha⟩:=Classical.not_forall.1 ha
   obtain⟨hi,hn⟩:=Classical.not_imp.1 ha
   obtain⟨r,hr,hp,pQ⟩:=exchange hT hS h hi hn
   have a7:=hS.lt i0 hi
   rw[h.n]at a7
   obtain⟨T',h1,h2,h3,h4⟩:=ih (2*e+1) (T.bP r (S.B i0)) (xz hT hr a7 hp) ((gp.bP hr hp).symm.trans h) (hb.bP hr a7 hp) (by have:=W2 hr hi hn pQ;omega)
   refine⟨T',h1,h2,h3,?_⟩
   have e2:2^k*(2*e+1+1)=2^(k+1)*(e+1):=by
    rw[Nat.pow_succ,Nat.mul_assoc]
    congr 1
   rwa [e2]at h4
theorem W4{D0 f e k:Nat}(hT:T.WF)(hS:S.WF)(h:gp T S)(hb:Bd D0 f e T)(hk:mN T S≤k):Bd D0 f (2^k*(e+1)-1) S:=by
 obtain⟨T',h1,h2,h3,D,hD,hX,hA,hC⟩:=reach hS k e T hT h hb hk
 have iE:∀i,i<S.m→∀k,k<T'.m→∀i',i'<S.m→T'.B k=S.B i→T'.A k (S.B i')=if i'=i then 1 else 0:=by
  intro i hi k hk i' eJ e
  obtain⟨k',ic,e'⟩:=h3 i' eJ
  rw[←e',h1.unit k' k ic hk]
  by_cases e0:i'=i
  ·rw[if_pos e0,if_pos (h1.inj hk ic (by rw[e,e',e0]))]
  ·rw[if_neg e0,if_neg (fun e1=>e0 (hS.inj eJ hi (by rw[←e',←e,e1])))]
 refine⟨D,hD,hX,fun i hi j hj=> ?_,fun j hj=> ?_⟩
 ·obtain⟨k,hk,e⟩:=h3 i hi
  have h4:=NZ hS h2.symm (i:=k) (j:=j) hk hj
  rw[nM (k:=i) hi _ (fun i' eJ a6=>by rw[iE i hi k hk i' eJ e,if_neg a6];grind),iE i hi k hk i hi e,if_pos rfl]at h4
  have h5:=hA k hk j (by rw[←h2.n];exact hj)
  rw[h4,←h2.n]at h5
  have e6:1*S.A i j=S.A i j:=by grind
  rwa [e6]at h5
 ·have h4:=W0 hS h2.symm (j:=j) hj
  rw[ks]at h4
  ·have h5:=hC j (by rw[←h2.n];exact hj)
   rw[h4,←h2.n]at h5
   have e6:S.c j+0=S.c j:=by grind
   rwa [e6]at h5
  ·intro i hi
   obtain⟨k,hk,e⟩:=h3 i hi
   rw[←e,h1.zero k hk];grind
theorem W5(T S:ao):mN T S≤S.m:=by
 unfold mN
 exact Nat.le_trans List.countP_le_length (by rw[List.length_range];exact Nat.le_refl _)
theorem N0:∀(n:Nat)(l:List Nat),l.Nodup→(∀x,x∈l→x<n)→l.length≤n
 | 0,l,_,h=>by
  cases l with
  | nil=>exact Nat.le_refl _
  | cons x l=>exact absurd (h x (List.mem_cons_self ..)) (Nat.not_lt_zero _)
 | n+1,l,hd,h=>by
  have h1:=N0 n (l.erase n) (hd.erase n) fun x hx=>by
   have h2:=(hd.mem_erase_iff).1 hx
   have:=h x h2.2
   have:=h2.1
   omega
  have h2:l.length≤(l.erase n).length+1:=by
   rw[List.length_erase];split <;> omega
  omega
theorem Iz{f:Nat→Nat}:∀{l:List Nat},l.Nodup→(∀x,x∈l→∀y,y∈l→f x=f y→x=y)→(l.map f).Nodup
 | [],_,_=>List.nodup_nil
 | x::l,h,hi=>by
  rw[List.nodup_cons]at h
  rw[List.map_cons,List.nodup_cons]
  refine⟨fun hm=> ?_,Iz h.2 fun y hy z hz=>hi y (List.mem_cons_of_mem _ hy) z (List.mem_cons_of_mem _ hz)⟩
  obtain⟨y,hy,e⟩:=List.mem_map.1 hm
  have:=hi y (List.mem_cons_of_mem _ hy) x (List.mem_cons_self ..) e
  exact h.1 (this▸hy)
open Classical in
theorem W6(hT:T.WF)(hS:S.WF)(h:gp T S):mN T S+T.m≤T.n:=by
 unfold mN
 rw[List.countP_eq_length_filter]
 generalize hl:(List.range S.m).filter (fun i=>decide (¬T.nP (S.B i)))=l
 have vk:∀i,i∈l→i<S.m∧¬T.nP (S.B i):=fun i hi=>by
  rw[←hl,List.mem_filter]at hi
  exact⟨List.mem_range.1 hi.1,of_decide_eq_true hi.2⟩
 have IA:l.Nodup:=by rw[←hl];exact List.Pairwise.filter _ List.nodup_range
 have h1:=N0 T.n (l.map S.B++(List.range T.m).map T.B) ?_ ?_
 ·rwa [List.length_append,List.length_map,List.length_map,List.length_range]at h1
 ·rw[List.nodup_append]
  refine⟨Iz IA fun x hx y hy e=>hS.inj (vk x hx).1 (vk y hy).1 e,Iz List.nodup_range fun x hx y hy e=>hT.inj (List.mem_range.1 hx) (List.mem_range.1 hy) e,fun a ha b hb e=> ?_⟩
  obtain⟨i,hi,rfl⟩:=List.mem_map.1 ha
  obtain⟨k,hk,rfl⟩:=List.mem_map.1 hb
  exact(vk i hi).2 ⟨k,List.mem_range.1 hk,e.symm⟩
 ·intro x hx
  rcases List.mem_append.1 hx with hx | hx
  ·obtain⟨i,hi,rfl⟩:=List.mem_map.1 hx
   have:=hS.lt i (vk i hi).1
   rw[←h.n];exact this
  ·obtain⟨i,hi,rfl⟩:=List.mem_map.1 hx
   exact hT.lt i (List.mem_range.1 hi)
theorem W7{D X:Nat}{q:Rat}(hD:0<D)(h:cQ D X q):q.num.natAbs≤X∧q.den≤D:=by
 obtain⟨z,h1,h2⟩:=h
 have hD':(D:Rat)≠0:=fun e=>by
  have:D=0:=by exact_mod_cast e
  omega
 have e:mkRat z D=q:=by
  rw[Rat.mkRat_eq_div]
  grind
 obtain⟨k,hk,h3,h4⟩:=Rat.mkRat_num_den (n:=z) (d:=D) (by omega) (n':=q.num) (d':=q.den) (z':=q.den_nz) (c:=q.reduced) e
 refine⟨?_,?_⟩
 ·rw[h3,Int.natAbs_mul,Int.natAbs_natCast]at h2
  exact Nat.le_trans (Nat.le_mul_of_pos_right _ (by omega)) h2
 ·rw[h4]
  exact Nat.le_mul_of_pos_right _ (by omega)
def wt(q:Rat):Nat:=q.num.natAbs.log2+q.den.log2+2
theorem W8(q:Rat):q.num.natAbs≤2^wt q:=by
 have h1:=Nat.lt_log2_self (n:=q.num.natAbs)
 have h2:=Nat.pow_le_pow_right (n:=2) (by decide) (show q.num.natAbs.log2+1≤wt q by unfold wt;omega)
 omega
theorem W9(q:Rat):q.den≤2^wt q:=by
 have h1:=Nat.lt_log2_self (n:=q.den)
 have h2:=Nat.pow_le_pow_right (n:=2) (by decide) (show q.den.log2+1≤wt q by unfold wt;omega)
 omega
def cC:List Rat→Nat
 | []=>0
 | q::l=>wt q+cC l
def dV:List Rat→Nat
 | []=>1
 | q::l=>q.den*dV l
theorem Aa(l:List Rat):0<dV l:=by
 induction l with
 | nil=>exact Nat.one_pos
 | cons q l ih=>exact Nat.mul_pos (Nat.pos_of_ne_zero q.den_nz) ih
theorem vn(l:List Rat):dV l≤2^cC l:=by
 induction l with
 | nil=>exact Nat.le_refl _
 | cons q l ih=>
  simp only[dV,cC,Nat.pow_add]
  exact Nat.mul_le_mul (W9 q) ih
theorem Xa{l:List Rat}{q:Rat}(h:q∈l):∃k,dV l=q.den*k:=by
 induction l with
 | nil=>cases h
 | cons r l ih=>
  rcases List.mem_cons.1 h with rfl | h
  ·exact⟨_,rfl⟩
  ·obtain⟨k,hk⟩:=ih h
   exact⟨r.den*k,by simp only[dV,hk];rw[Nat.mul_left_comm]⟩
theorem Xb{l:List Rat}{q:Rat}(h:q∈l):wt q≤cC l:=by
 induction l with
 | nil=>cases h
 | cons r l ih=>
  simp only[cC]
  rcases List.mem_cons.1 h with rfl | h
  ·omega
  ·have:=ih h;omega
theorem Es{l:List Rat}{q:Rat}(h:q∈l):cQ (dV l) (2^(2*cC l)) q:=by
 obtain⟨k,hk⟩:=Xa h
 refine⟨q.num*k,?_,?_⟩
 ·rw[hk,Rat.natCast_mul,Rat.intCast_mul]
  have h1:q*(q.den:Rat)=(q.num:Rat):=by
   have hd:(q.den:Rat)≠0:=fun e=>q.den_nz (by exact_mod_cast e)
   have e:=Rat.mkRat_self q
   rw[Rat.mkRat_eq_div]at e
   grind
  have h2:((k:Int):Rat)=(k:Rat):=rfl
  rw[h2,←h1];grind
 ·rw[Int.natAbs_mul,Int.natAbs_natCast]
  have h1:=W8 q
  have h2:=Nat.pow_le_pow_right (n:=2) (by decide) (Xb h)
  have h3:k≤dV l:=by
   rw[hk];exact Nat.le_mul_of_pos_left _ (Nat.pos_of_ne_zero q.den_nz)
  have h4:=vn l
  rw[Nat.two_mul,Nat.pow_add]
  exact Nat.mul_le_mul (Nat.le_trans h1 h2) (Nat.le_trans h3 h4)
theorem N1(l:List Rat)(z:Int)(hz:z.natAbs≤1):cQ (dV l) (2^(2*cC l)) (z:Rat):=by
 refine⟨z*dV l,?_,?_⟩
 ·rw[Rat.intCast_mul];rfl
 ·rw[Int.natAbs_mul,Int.natAbs_natCast]
  have h1:z.natAbs*dV l≤1*dV l:=Nat.mul_le_mul_right _ hz
  have h2:=vn l
  have h3:=Nat.pow_le_pow_right (n:=2) (by decide) (show cC l≤2*cC l by omega)
  omega
theorem cQ.neg{D X:Nat}{q:Rat}(h:cQ D X q):cQ D X (-q):=by
 obtain⟨z,h1,h2⟩:=h
 exact⟨-z,by rw[Rat.intCast_neg,←h1];grind,by omega⟩
theorem cQ.sub{D X Y:Nat}{q r:Rat}(h:cQ D X q)(k:cQ D Y r):cQ D (X+Y) (q-r):=by
 obtain⟨z,h1,h2⟩:=h
 obtain⟨y,k1,k2⟩:=k
 exact⟨z-y,by rw[Rat.intCast_sub,←h1,←k1];grind,by omega⟩
theorem vo(D X:Nat):cQ D X 0:=⟨0,by grind,by simp⟩
theorem Xc{D X:Nat}(m:Nat)(f:Nat→Rat)(h:∀i,i<m→cQ D X (f i)):cQ D (m*X) (aP m f):=by
 induction m with
 | zero=>rw[sT];exact vo _ _
 | succ m ih=>
  rw[eu,Nat.succ_mul]
  obtain⟨z,h1,h2⟩:=ih (fun i hi=>h i (by omega))
  obtain⟨y,k1,k2⟩:=h m (by omega)
  exact⟨z+y,by rw[Rat.intCast_add,←h1,←k1];grind,by omega⟩
end
end ao
end Lp
namespace Go.ar
open Go.Proofs Num Lp
def aN(f:Nat→Rat)(n:Nat):List Rat:=(List.range n).map f
theorem cE(f:Nat→Rat)(n:Nat):(aN f n).length=n:=by simp[aN]
theorem eF{f:Nat→Rat}{n j:Nat}(h:j<n):(aN f n)[j]? = some (f j):=by simp[aN,h]
theorem j8{f g:Nat→Rat}{n:Nat}(h:∀j,j<n→f j=g j):aN f n=aN g n:=by
 apply List.ext_getElem?
 intro j
 by_cases hj:j<n
 ·rw[eF hj,eF hj,h j hj]
 ·rw[List.getElem?_eq_none (by rw[cE];omega),List.getElem?_eq_none (by rw[cE];omega)]
theorem xP{f:Nat→Rat}{n j:Nat}(h:j<n):fn (aN f n) j=f j:=iu (eF h)
def jl(f g:Nat→Rat)(k:Nat)(j:Nat):Rat:=if j<k then f j else g j
theorem Xd{f g:Nat→Rat}{n k:Nat}:(aN (jl f g k) n).set k (f k)=aN (jl f g (k+1)) n:=by
 apply List.ext_getElem?
 intro j
 by_cases hj:j<n
 ·by_cases e:j=k
  ·subst e
   rw[List.getElem?_set_self (by rw[cE];exact hj),eF hj]
   simp[jl]
  ·rw[List.getElem?_set_ne (fun e'=>e e'.symm),eF hj,eF hj]
   unfold jl
   by_cases h:j<k
   ·rw[if_pos h,if_pos (by omega)]
   ·rw[if_neg h,if_neg (by omega)]
 ·rw[List.getElem?_eq_none (by rw[List.length_set,cE];omega),List.getElem?_eq_none (by rw[cE];omega)]
theorem N2{f g:Nat→Rat}{n k:Nat}(h:f k=g k):aN (jl f g k) n=aN (jl f g (k+1)) n:=j8 fun j _=>by
 unfold jl
 by_cases e:j=k
 ·subst e;rw[if_neg (by omega),if_pos (by omega),h]
 ·by_cases h':j<k
  ·rw[if_pos h',if_pos (by omega)]
  ·rw[if_neg h',if_neg (by omega)]
theorem N4{f g:Nat→Rat}{n:Nat}:aN (jl f g 0) n=aN g n:=j8 fun j _=>by simp[jl]
theorem N5{f g:Nat→Rat}{n:Nat}:aN (jl f g n) n=aN f n:=j8 fun j hj=>by simp[jl,hj]
def iL(K:Heap)(H:Heap)(g:Nat)(l:List Rat):Prop:=∃xs sz,H g=some ⟨xs,sz,61,true⟩∧bg (aZ K) 3 xs l
theorem iL.le{K K' H H':Heap}{g:Nat}{l:List Rat}(h:iL K H g l)(hl:Heap.le K K')(hs:H' g=H g):iL K' H' g l:=by
 obtain⟨xs,sz,h1,h2⟩:=h
 exact⟨xs,sz,by rw[hs];exact h1,h2.mono fun vs a=>fi _ _ vs a hl⟩
theorem iL.rd{K H:Heap}{g:Nat}{l:List Rat}(h:iL K H g l){i:Nat}{q:Rat}(hq:l[i]? = some q):∃xs n d b,Rd H (some ⟨g,0,none⟩) xs∧aZ K [.int .i64 n,.int .i64 d,.pointer b] q∧∀(j:Nat)(v:Value),[.int .i64 n,.int .i64 d,.pointer b][j]? = some v→xs[i*3+j]? = some v:=by
 obtain⟨xs,sz,h1,h2⟩:=h
 obtain⟨vs,_,h3,h4⟩:=h2.get hq
 obtain⟨n,d,b,rfl⟩:=h3.cells
 exact⟨xs,n,d,b,re h1,h3,h4⟩
structure Kept(gs:List Nat)(H H':Heap):Prop where
 le:Heap.le (rem H gs) (rem H' gs)
 same:∀q,q∈gs→H' q=H q
structure j9(gs:List Nat)(g:Nat)(H H':Heap):Prop where
 le:Heap.le (rem H gs) (rem H' gs)
 same:∀q,q∈gs→q≠g→H' q=H q
theorem Kept.refl(gs:List Nat)(H:Heap):Kept gs H H:=⟨.refl _,fun _ _=>rfl⟩
theorem Kept.trans{gs:List Nat}{A B C:Heap}(h:Kept gs A B)(k:Kept gs B C):Kept gs A C:=⟨h.le.trans k.le,fun q hq=>(k.same q hq).trans (h.same q hq)⟩
theorem j9.trans{gs:List Nat}{g:Nat}{A B C:Heap}(h:j9 gs g A B)(k:j9 gs g B C):j9 gs g A C:=⟨h.le.trans k.le,fun q hq a6=>(k.same q hq a6).trans (h.same q hq a6)⟩
theorem Kept.mO{gs:List Nat}{H H':Heap}(h:Kept gs H H')(g:Nat):j9 gs g H H':=⟨h.le,fun q hq _=>h.same q hq⟩
theorem j9.ins{gs:List Nat}{g:Nat}{H H':Heap}(h:j9 gs g H H')(hg:g∈gs)(e:aG):j9 gs g H (ins H' g e):=
 ⟨by rw[bZ _ hg];exact h.le,fun q hq a6=>by rw[bA _ _ a6];exact h.same q hq a6⟩
theorem Kept.of{gs:List Nat}{H H':Heap}{v:Value}{aX:Value→Heap→Prop}(h:sQ gs aX H v H')(hl:∀v K,aX v K→Heap.le (rem H gs) K):Kept gs H H':=⟨hl _ _ h.post,h.same⟩
theorem Kept.ne{gs:List Nat}{H H':Heap}(h:Kept gs H H')(hn:∀q,q∈gs→H q≠none):∀q,q∈gs→H' q≠none:=fun q hq=>by rw[h.same q hq];exact hn q hq
structure N6(gs:List Nat)(H:Heap)(q:Rat)(v:Value)(H':Heap):Prop where
 kept:Kept gs H H'
 le:Heap.le H H'
 val:∃n d b,v=N3 n d b∧aZ (rem H' gs) [.int .i64 n,.int .i64 d,.pointer b] q
structure Xe(gs:List Nat)(H:Heap)(x:Value)(v:Value)(H':Heap):Prop where
 kept:Kept gs H H'
 le:Heap.le H H'
 val:v=x
theorem Fn.iM{P:Program}{f:FuncId}{args:Array Value}{H:Heap}{gs:List Nat}{q:Rat}(pT:∀g,g∈gs→H g≠none)(h:Fn P f args (rem H gs) (nJ (rem H gs) q)):Fn P f args H (N6 gs H q):=
 (Fn.frame pT h).mono fun v H' hf=>by
  refine⟨.of hf fun v K hp=>hp.1,hf.le fun v K hp=>hp.1,?_⟩
  obtain⟨_,vs,rfl,hn⟩:=hf.post
  obtain⟨n,d,b,rfl⟩:=hn.cells
  exact⟨n,d,b,rfl,hn⟩
theorem Fn.oV{P:Program}{f:FuncId}{args:Array Value}{H:Heap}{gs:List Nat}{x:Value}(pT:∀g,g∈gs→H g≠none)(h:Fn P f args (rem H gs) (fun v H'=>Heap.le (rem H gs) H'∧v=x)):Fn P f args H (Xe gs H x):=
 (Fn.frame pT h).mono fun v H' hf=>⟨.of hf fun v K hp=>hp.1,hf.le fun v K hp=>hp.1,hf.post.2⟩
theorem iL.set{K H:Heap}{g:Nat}{f b:Nat→Rat}{n k:Nat}{xs:List Value}{sz:Nat}(h2:bg (aZ K) 3 xs (aN (jl f b k) n))(hk:k<n){vs:List Value}(hv:aZ K vs (f k))(e:H g=some ⟨aC xs (k*3) vs,sz,61,true⟩):iL K H g (aN (jl f b (k+1)) n):=by
 refine⟨_,_,e,?_⟩
 rw[←Xd]
 exact h2.set (by rw[cE];exact hk) hv hv.len
end Go.ar
namespace Go.ar
open Go.Proofs Num Lp
theorem N7{H:Heap}{gs:List Nat}{g gl gr:Nat}{ts:List Value}{Ar:Option Addr}{m cr:Nat}{nQ:List Value}{row n c1 cl N:Nat}{a b:Nat→Rat}{fs:List Value}{f:Rat}
 (a6:∀q,q∈gs→H q≠none) (hg:g∈gs) (rf:gl∈gs) (N8:gr∈gs) (vk:gl≠gr) (s6:g≠gl) (ht:H g=some ⟨ts,9,68,true⟩) (Xf:ts[6]? = some (.slice Ar m cr)) (mr:Rd (rem H gs) Ar nQ) (N9:row<m) (gn:nQ[row]? = some (.slice (some ⟨gr,0,none⟩) n c1))
 (pQ:iL (rem H gs) H gr (aN a n)) (kY:iL (rem H gs) H gl (aN b n)) (hf:aZ (rem H gs) fs f) (hN:(N:Int)≤549755813888) (hn:(n:Int)≤1099511627776) (sf:aK f≤N) (sa:∀j,j<n→aK (a j)≤N) (sb:∀j,j<n→aK (b j)≤N):
 Fn Tryz.prog 61 #[.pointer (some ⟨g,0,none⟩),.slice (some ⟨gl,0,none⟩) n cl,.int .i64 (row:Int),.agg fs.toArray] H (fun _ H'=>j9 gs gl H H'∧iL (rem H' gs) H' gl (aN (fun j=>b j-f*a j) n)):=by
 obtain⟨nf,df,bf,rfl⟩:=hf.cells;refine aW (args:=[_,_,_,_]) Tryz.func61 rfl rfl Tryz.ntmps61 rfl rfl fun w0=> ?_;refine aj [0,1,2,3] rfl ?_;refine af (bY rfl rfl (ae [0,1,2,7] ?_));refine aq (af (ab 1 rfl (au rfl rfl (Fn.oV a6 (iK hf (by omega))) ?_)));rintro v1 H1 ⟨fU,cn,rfl⟩;refine ab 1 rfl (ae [0,1,2,7,12] ?_);refine az rfl (fun hb=> ?_) (fun hb=> ?_)
 ·
  have hb:f=0:=s4 (by simpa using hb);refine aw ⟨.inr rfl,_,.nil,?_⟩;exact⟨fU.mO gl,by rw[j8 (g:=b) (fun j _=>by rw[hb];grind)];exact kY.le fU.le (fU.same gl rf)⟩
 ·
  skip
  refine ax (aj [0,1,2,7] rfl ?_);refine af (ab 2 rfl (a4 ag rfl rfl rfl (aQ ag rfl rfl rfl (by rw[show cell H1 ((⟨g,0,none⟩:Addr).add 6)=ts[6]? by simp[cell,jd,fU.same g hg,ht]];exact Xf) ?_)));refine ab 1 rfl (a9 ag rfl rfl rfl rfl rfl ((mr.le fU.le).le (bn _ _)) (by rw[Int.toNat_natCast];exact gn) (by omega) (by omega) fun _=> ?_);refine ab 2 rfl (ae [1,7,19,20,21] ?_);have Xg:=pQ.le fU.le (fU.same gr N8);have Xh:=kY.le fU.le (fU.same gl rf);have jR:=hf.le fU.le;have Xi:=fU.ne a6;clear pQ kY hf a6 ht mr;refine aD (gj (fun(k:Nat)=>n-k) (fun(k:Nat)=>put (put (put (put (put (emp) 1 (.val (.slice (some ⟨gl,0,none⟩) n cl))) 7 (.box [.int .i64 nf,.int .i64 df,.pointer bf])) 19 (.val (.slice (some ⟨gr,0,none⟩) n c1))) 20 (.val (.int .i64 (n:Int)))) 21 (.val (.int .i64 (k:Int)))) (fun(k:Nat) H'=>j9 gs gl H1 H'∧iL (rem H' gs) H' gl (aN (jl (fun j=>b j-f*a j) b k) n)∧k≤n) 0 (⟨(Kept.refl _ _).mO _,by rw[N4];exact Xh,Nat.zero_le _⟩) ay ?_);rintro k H2 ⟨fF,bU,gi⟩;have Xj:=Xg.le fF.le (fF.same gr N8 (Ne.symm vk));have kR:=jR.le fF.le
  have rh:∀q,q∈gs→H2 q≠none:=fun q hq=>by
   by_cases e:q=gl
   ·
    obtain⟨xs,sz,h,_⟩:=bU;rw[e,h];simp
   ·rw[fF.same q hq e];exact Xi q hq
  refine af (ab 1 rfl (ae [1,7,19,20,21,22] ?_));refine aq (az rfl (fun hb=> ?_) (fun hb=> ?_))
  ·
   have ew:k<n:=by simpa using hb
   obtain⟨xr,na,da,ba,vp,s7,Xk⟩:=Xj.rd (eF ew);obtain⟨xl,nl,dl,bl,s8,xQ,cj⟩:=bU.rd (eF ew);rw[show jl (fun j=>b j-f*a j) b k k=b k by simp[jl]]at xQ;have IB:=sa k ew;have Oa:=sb k ew;refine ax (aj [1,7,19,20,21] rfl ?_);refine aq (aD (af (ab 1 rfl (cS (vs:=[.int .i64 na,.int .i64 da,.pointer ba]) ag rfl rfl rfl rfl vp rfl (by decide) Xk (by omega) (by omega) fun _=>(bD dd rfl (vr 1 ?_))))));obtain⟨ti,ak,al⟩:=bI;refine aM (.inl ⟨rfl,rfl⟩) rfl rfl rfl ak al rfl rfl rfl (ae [1,7,8,9,19,20,21] ?_);refine af (ab 1 rfl (au rfl rfl (Fn.oV rh (iK s7 (by omega))) ?_));rintro v3 H3 ⟨dC,fu,rfl⟩;have Et:=dC.ne rh;have sj:=kR.le dC.le;have Xl:=s7.le dC.le;have Xm:=xQ.le dC.le;refine ab 1 rfl (ae [1,7,8,9,19,20,21,28] ?_);refine az rfl (fun hb=> ?_) (fun hb=> ?_)
   ·
    skip
    refine fc .fR [0,1,2,3,4,5,6,7,8,9,10,11] follows (by kernel_rfl) ?_;refine ab 4 rfl (cS (vs:=[.int .i64 nl,.int .i64 dl,.pointer bl]) ag rfl rfl rfl rfl (s8.le fu) rfl (by decide) cj (by omega) (by omega) fun _=>(ab 2 rfl (aT rfl rfl (Fn.iM Et (vh (N:=N) sj Xl sf IB (by omega))) (fun _ _ h=>by first | exact h.le | exact h.1) ?_)));rintro v4 H4 ⟨ey,eZ,n4,d4,b4,rfl,cJ⟩;have Xn:=ey.ne Et;have GS:=pU f (a k);refine aT rfl rfl (Fn.iM Xn (vi (N:=2*N) (Xm.le ey.le) cJ (by omega) (by omega) (by omega))) (fun _ _ h=>by first | exact h.le | exact h.1) ?_;rintro v5 H5 ⟨ll,gL,n5,d5,b5,rfl,p8⟩;obtain⟨IC,Xo,mP,Ae⟩:=(bU.le (dC.le.trans ey.le) ((ey.same gl rf).trans (dC.same gl rf))).le ll.le (ll.same gl rf);have ID:=Ae.len;rw[cE]at ID;obtain⟨ti,ak,al⟩:=bI;refine dP (.inr rfl) ag rfl rfl rfl (by omega) (by omega) (mP) rfl (by show 0+n*3≤IC.length;omega) ak al (fun _=>rfl) rfl rfl rfl fun _=> ?_;refine aA (aj [1,7,19,20,21] rfl ?_);refine aF rfl (aO rfl rfl ⟨by omega,by omega⟩ (ab 1 rfl (aA ?_)));exact⟨k+1,by omega,ay,(((fF.trans (dC.mO gl)).trans (ey.mO gl)).trans (ll.mO gl)).ins rf _,by rw[bZ _ rf];exact iL.set Ae ew p8 (by rw[bx,Nat.zero_add];rfl),by omega⟩
   have hz:a k=0:=s4 (by simpa using hb);refine ax (aj [1,7,19,20,21] rfl ?_);refine aF rfl (aO rfl rfl ⟨by omega,by omega⟩ (ab 1 rfl (aA ?_)));exact⟨k+1,by omega,ay,fF.trans (dC.mO gl),by rw[←N2 (show (fun j=>b j-f*a j) k=b k by show b k-f*a k=b k;rw[hz];grind)];exact bU.le dC.le (dC.same gl rf),by omega⟩
  have hb:n≤k:=by simpa using hb
  obtain rfl:k=n:=by omega
  refine bC ?_;refine⟨.inl rfl,_,.nil,?_⟩;exact⟨(fU.mO gl).trans fF,by rw[←N5 (g:=b)];exact bU⟩
end Go.ar
namespace Go.ar
open Go.Proofs Num Lp
def vq(_:Heap)(vs:List Value)(z:Int):Prop:=vs = [.int .i64 z]
def p9(_:Heap)(vs:List Value)(k:Nat):Prop:=vs = [.int .i64 (k:Int)]
theorem qa:Up vq:=fun _ _ _ _ _ h=>h
theorem jH:Up p9:=fun _ _ _ _ _ h=>h
structure TL where
 w:Nat
 u:Nat
 plus:List Nat
 minus:List Int
 gM:List Nat
 gB:List Rat
structure TG where
 g:Nat
 cr:Nat
 Ar:Option Addr
 pv:Value
 mv:Value
 uv:Value
 sv:Value
 cv:Value
 bv:Value
 rg:List (Nat×Nat)
 cb:List Nat
 bb:List Nat
def TG.gs(G:TG):List Nat:=G.g::(G.cb++(G.bb++G.rg.map (·.1)))
def TG.cells(G:TG)(w u m:Nat):List Value:=[.int .i64 (w:Int),.int .i64 (u:Int),G.pv,G.mv,G.uv,G.sv,.slice G.Ar m G.cr,G.cv,G.bv]
def iv(B:Nat→Nat)(m:Nat):List Value:=(List.range m).map fun i=> .int .i64 (B i:Int)
theorem rj{B:Nat→Nat}{m i:Nat}(h:i<m):(iv B m)[i]? = some (.int .i64 (B i:Int)):=by simp[iv,h]
theorem Eu(B:Nat→Nat)(m:Nat):(iv B m).length=m:=by simp[iv]
theorem Xp{B C:Nat→Nat}{m:Nat}(h:∀i,i<m→B i=C i):iv B m=iv C m:=by
 unfold iv
 apply List.map_congr_left
 intro i hi
 rw[h i (List.mem_range.1 hi)]
structure cK(H:Heap)(G:TG)(L:TL)(T:ao):Prop where
 n:T.n=L.w
 uw:L.u≤L.w
 st:H G.g=some ⟨G.cells L.w L.u T.m,9,68,true⟩
 nd:G.gs.Nodup
 ku:G.rg.length=T.m
 rows:∃xs,Rd (rem H G.gs) G.Ar xs∧∀(i:Nat)(p:Nat×Nat),G.rg[i]? = some p→xs[i]? = some (.slice (some ⟨p.1,0,none⟩) (L.w+1) p.2)
 row:∀(i:Nat)(p:Nat×Nat),G.rg[i]? = some p→iL (rem H G.gs) H p.1 (aN (T.A i) (L.w+1))
 basis:(T.m=0∧G.bb = []∧G.bv = .slice none 0 0)∨∃gb cb sz,G.bb = [gb]∧G.bv = .slice (some ⟨gb,0,none⟩) T.m cb∧H gb=some ⟨iv T.B T.m,sz,3,true⟩
 plus:aH p9 1 (rem H G.gs) G.pv L.plus
 minus:aH vq 1 (rem H G.gs) G.mv L.minus
 gM:aH p9 1 (rem H G.gs) G.uv L.gM
 gB:aH aZ 3 (rem H G.gs) G.sv L.gB
 cb:∀q,q∈G.cb→H q≠none
def fj(H:Heap)(G:TG)(L:TL)(T:ao):Prop:=∃gc cc,G.cb = [gc]∧G.cv = .slice (some ⟨gc,0,none⟩) (L.w+1) cc∧iL (rem H G.gs) H gc (aN T.c (L.w+1))
section
variable {H H':Heap} {G:TG} {L:TL} {T:ao}
theorem TG.nR(G:TG):G.g∈G.gs:=List.mem_cons_self ..
theorem TG.s9{G:TG}{q:Nat}(h:q∈G.cb):q∈G.gs:=List.mem_cons_of_mem _ (List.mem_append_left _ h)
theorem TG.rk{G:TG}{q:Nat}(h:q∈G.bb):q∈G.gs:=List.mem_cons_of_mem _ (List.mem_append_right _ (List.mem_append_left _ h))
theorem TG.l5{G:TG}{i:Nat}{p:Nat×Nat}(h:G.rg[i]? = some p):p.1∈G.gs:=List.mem_cons_of_mem _ (List.mem_append_right _ (List.mem_append_right _ (List.mem_map.2 ⟨p,List.mem_of_getElem? h,rfl⟩)))
theorem cK.ne(h:cK H G L T):∀q,q∈G.gs→H q≠none:=fun q hq=>by
 rcases List.mem_cons.1 hq with rfl | hq
 ·rw[h.st];simp
 ·rcases List.mem_append.1 hq with hq | hq
  ·exact h.cb q hq
  ·rcases List.mem_append.1 hq with hq | hq
   ·rcases h.basis with ⟨_,h1,_⟩ | ⟨gb,cb,sz,h1,_,h2⟩
    ·rw[h1]at hq;cases hq
    ·rw[h1,List.mem_singleton]at hq
     rw[hq,h2];simp
   ·obtain⟨p,hp,rfl⟩:=List.mem_map.1 hq
    obtain⟨i,hi⟩:=List.getElem?_of_mem hp
    obtain⟨xs,sz,h1,_⟩:=h.row i p hi
    rw[h1];simp
theorem cK.cell(h:cK H G L T){k:Nat}{v:Value}(hk:(G.cells L.w L.u T.m)[k]? = some v):ar.cell H ((⟨G.g,0,none⟩:Addr).add k)=some v:=by
 simp[ar.cell,jd,h.st,hk]
theorem cK.xR(h:cK H G L T):ar.cell H (⟨G.g,0,none⟩:Addr)=some (.int .i64 (L.w:Int)):=by
 have:=h.cell (k:=0) (v:= .int .i64 (L.w:Int)) rfl
 rwa [jd]at this
theorem TG.vt{G:TG}(h:G.gs.Nodup){q:Nat}(hq:q∈G.cb∨q∈G.bb∨∃(i:Nat)(p:Nat×Nat),G.rg[i]? = some p∧p.1=q):G.g≠q:=by
 have h1:=(List.nodup_cons.1 h).1
 intro e
 subst e
 apply h1
 rcases hq with hq | hq | ⟨i,p,hp,he⟩
 ·exact List.mem_append_left _ hq
 ·exact List.mem_append_right _ (List.mem_append_left _ hq)
 ·exact List.mem_append_right _ (List.mem_append_right _ (List.mem_map.2 ⟨p,List.mem_of_getElem? hp,he⟩))
theorem TG.vu{G:TG}(h:G.gs.Nodup){q r:Nat}(hq:q∈G.cb)(hr:r∈G.bb∨∃(i:Nat)(p:Nat×Nat),G.rg[i]? = some p∧p.1=r):q≠r:=by
 have h1:=(List.nodup_append.1 (List.nodup_cons.1 h).2).2.2 q hq
 refine h1 r ?_
 rcases hr with hr | ⟨i,p,hp,he⟩
 ·exact List.mem_append_left _ hr
 ·exact List.mem_append_right _ (List.mem_map.2 ⟨p,List.mem_of_getElem? hp,he⟩)
theorem TG.Ob{G:TG}(h:G.gs.Nodup){q:Nat}(hq:q∈G.bb){i:Nat}{p:Nat×Nat}(hp:G.rg[i]? = some p):q≠p.1:=
 (List.nodup_append.1 (List.nodup_append.1 (List.nodup_cons.1 h).2).2.1).2.2 q hq p.1 (List.mem_map.2 ⟨p,List.mem_of_getElem? hp,rfl⟩)
theorem TG.Oc{G:TG}(h:G.gs.Nodup){i j:Nat}{p q:Nat×Nat}(hp:G.rg[i]? = some p)(hq:G.rg[j]? = some q)(a6:i≠j):p.1≠q.1:=by
 have h1:=(List.nodup_append.1 (List.nodup_append.1 (List.nodup_cons.1 h).2).2.1).2.1
 intro e
 have hi:(G.rg.map (·.1))[i]? = some p.1:=by rw[List.getElem?_map,hp];rfl
 have hj:(G.rg.map (·.1))[j]? = some p.1:=by rw[List.getElem?_map,hq,e];rfl
 obtain⟨hi1,ox⟩:=List.getElem?_eq_some_iff.1 hi
 obtain⟨qT,uH⟩:=List.getElem?_eq_some_iff.1 hj
 exact a6 ((List.getElem_inj h1).1 (ox.trans uH.symm))
theorem cK.kept(h:cK H G L T)(k:Kept G.gs H H'):cK H' G L T where
 n:=h.n
 uw:=h.uw
 st:=by rw[k.same _ G.nR];exact h.st
 nd:=h.nd
 ku:=h.ku
 rows:=by obtain⟨xs,h1,h2⟩:=h.rows;exact⟨xs,h1.le k.le,h2⟩
 row:=fun i p hp=>(h.row i p hp).le k.le (k.same _ (TG.l5 hp))
 basis:=by
  rcases h.basis with h1 | ⟨gb,cb,sz,h1,h2,h3⟩
  ·exact .inl h1
  ·exact .inr ⟨gb,cb,sz,h1,h2,by rw[k.same _ (TG.rk (by rw[h1];exact List.mem_singleton.2 rfl))];exact h3⟩
 plus:=h.plus.le jH k.le
 minus:=h.minus.le qa k.le
 gM:=h.gM.le jH k.le
 gB:=h.gB.le fi k.le
 cb:=fun q hq=>by rw[k.same _ (TG.s9 hq)];exact h.cb q hq
theorem fj.kept(h:fj H G L T)(k:Kept G.gs H H'):fj H' G L T:=by
 obtain⟨gc,cc,h1,h2,h3⟩:=h
 exact⟨gc,cc,h1,h2,h3.le k.le (k.same _ (TG.s9 (by rw[h1];exact List.mem_singleton.2 rfl)))⟩
theorem cK.congr{T':ao}(h:cK H G L T)(hm:T'.m=T.m)(hn:T'.n=T.n)(hA:∀i,i<T.m→∀j,j≤T.n→T'.A i j=T.A i j)(hB:∀i,i<T.m→T'.B i=T.B i):cK H G L T' where
 n:=hn.trans h.n
 uw:=h.uw
 st:=by rw[hm];exact h.st
 nd:=h.nd
 ku:=h.ku.trans hm.symm
 rows:=h.rows
 row:=fun i p hp=>by
  have hi:i<T.m:=by rw[←h.ku];exact(List.getElem?_eq_some_iff.1 hp).1
  rw[j8 (g:=T.A i) (fun j hj=>hA i hi j (by rw[h.n];omega))];exact h.row i p hp
 basis:=by
  rw[hm,Xp hB];exact h.basis
 plus:=h.plus
 minus:=h.minus
 gM:=h.gM
 gB:=h.gB
 cb:=h.cb
theorem fj.congr{T':ao}(h:fj H G L T)(hc:∀j,j≤L.w→T'.c j=T.c j):fj H G L T':=by
 obtain⟨gc,cc,h1,h2,h3⟩:=h
 exact⟨gc,cc,h1,h2,by rw[j8 (g:=T.c) (fun j hj=>hc j (by omega))];exact h3⟩
def _root_.Lp.ao.setRow(T:ao)(i:Nat)(f:Nat→Rat):ao:={T with A:=fun k=>if k=i then f else T.A k}
theorem cK.setRow(h:cK H G L T){i:Nat}{p:Nat×Nat}(hp:G.rg[i]? = some p)(k:j9 G.gs p.1 H H'){f:Nat→Rat}(hb:iL (rem H' G.gs) H' p.1 (aN f (L.w+1))):cK H' G L (T.setRow i f) where
 n:=h.n
 uw:=h.uw
 st:=by rw[k.same _ G.nR (TG.vt h.nd (.inr (.inr ⟨i,p,hp,rfl⟩)))];exact h.st
 nd:=h.nd
 ku:=h.ku
 rows:=by obtain⟨xs,h1,h2⟩:=h.rows;exact⟨xs,h1.le k.le,h2⟩
 row:=fun j q hq=>by
  by_cases e:j=i
  ·subst e
   rw[hp]at hq
   cases hq
   simp only[ao.setRow,if_true]
   exact hb
  ·simp only[ao.setRow,if_neg e]
   exact(h.row j q hq).le k.le (k.same _ (TG.l5 hq) (TG.Oc h.nd hq hp e))
 basis:=by
  rcases h.basis with h1 | ⟨gb,cb,sz,h1,h2,h3⟩
  ·exact .inl h1
  ·have hm:gb∈G.bb:=by rw[h1];exact List.mem_singleton.2 rfl
   exact .inr ⟨gb,cb,sz,h1,h2,by rw[k.same _ (TG.rk hm) (TG.Ob h.nd hm hp)];exact h3⟩
 plus:=h.plus.le jH k.le
 minus:=h.minus.le qa k.le
 gM:=h.gM.le jH k.le
 gB:=h.gB.le fi k.le
 cb:=fun q hq=>by rw[k.same _ (TG.s9 hq) (TG.vu h.nd hq (.inr ⟨i,p,hp,rfl⟩))];exact h.cb q hq
theorem fj.setRow(h:fj H G L T)(nd:G.gs.Nodup){i:Nat}{p:Nat×Nat}(hp:G.rg[i]? = some p)(k:j9 G.gs p.1 H H')(f:Nat→Rat):fj H' G L (T.setRow i f):=by
 obtain⟨gc,cc,h1,h2,h3⟩:=h
 have hm:gc∈G.cb:=by rw[h1];exact List.mem_singleton.2 rfl
 exact⟨gc,cc,h1,h2,h3.le k.le (k.same _ (TG.s9 hm) (TG.vu nd hm (.inr ⟨i,p,hp,rfl⟩)))⟩
theorem cK.Xq(h:cK H G L T){gc:Nat}(hc:G.cb = [gc])(k:j9 G.gs gc H H'){f:Nat→Rat}(hb:iL (rem H' G.gs) H' gc (aN f (L.w+1))):cK H' G L {T with c:=f}:=by
 have hm:gc∈G.cb:=by rw[hc];exact List.mem_singleton.2 rfl
 exact
 {n:=h.n
  uw:=h.uw
  st:=by rw[k.same _ G.nR (TG.vt h.nd (.inl hm))];exact h.st
  nd:=h.nd
  ku:=h.ku
  rows:=by obtain⟨xs,h1,h2⟩:=h.rows;exact⟨xs,h1.le k.le,h2⟩
  row:=fun j q hq=>(h.row j q hq).le k.le (k.same _ (TG.l5 hq) (fun e=>TG.vu h.nd hm (.inr ⟨j,q,hq,rfl⟩) e.symm))
  basis:=by
   rcases h.basis with h1 | ⟨gb,cb,sz,h1,h2,h3⟩
   ·exact .inl h1
   ·have aV:gb∈G.bb:=by rw[h1];exact List.mem_singleton.2 rfl
    exact .inr ⟨gb,cb,sz,h1,h2,by rw[k.same _ (TG.rk aV) (fun e=>TG.vu h.nd hm (.inl aV) e.symm)];exact h3⟩
  plus:=h.plus.le jH k.le
  minus:=h.minus.le qa k.le
  gM:=h.gM.le jH k.le
  gB:=h.gB.le fi k.le
  cb:=fun q hq=>by
   rw[hc,List.mem_singleton]at hq
   obtain⟨xs,sz,h1,_⟩:=hb
   rw[hq,h1];simp}
theorem cK.IE(h:cK H G L T){gb cb sz:Nat}(hb:G.bb = [gb])(hv:G.bv = .slice (some ⟨gb,0,none⟩) T.m cb){r s:Nat}{e:aG}(he:e=⟨iv (fun i=>if i=r then s else T.B i) T.m,sz,3,true⟩):cK (ins H gb e) G L {T with B:=fun i=>if i=r then s else T.B i}:=by
 have hm:gb∈G.bb:=by rw[hb];exact List.mem_singleton.2 rfl
 have k:j9 G.gs gb H (ins H gb e):=((Kept.refl _ _).mO gb).ins (TG.rk hm) e
 exact
 {n:=h.n
  uw:=h.uw
  st:=by rw[k.same _ G.nR (TG.vt h.nd (.inr (.inl hm)))];exact h.st
  nd:=h.nd
  ku:=h.ku
  rows:=by obtain⟨xs,h1,h2⟩:=h.rows;exact⟨xs,h1.le k.le,h2⟩
  row:=fun j q hq=>(h.row j q hq).le k.le (k.same _ (TG.l5 hq) (fun e=>TG.Ob h.nd hm hq e.symm))
  basis:= .inr ⟨gb,cb,sz,hb,hv,by rw[bx,he]⟩
  plus:=h.plus.le jH k.le
  minus:=h.minus.le qa k.le
  gM:=h.gM.le jH k.le
  gB:=h.gB.le fi k.le
  cb:=fun q hq=>by rw[k.same _ (TG.s9 hq) (TG.vu h.nd hq (.inl hm))];exact h.cb q hq}
theorem fj.IE(h:fj H G L T)(nd:G.gs.Nodup){gb:Nat}(hb:G.bb = [gb])(e:aG)(B:Nat→Nat):fj (ins H gb e) G L {T with B:=B}:=by
 have hm:gb∈G.bb:=by rw[hb];exact List.mem_singleton.2 rfl
 have k:j9 G.gs gb H (ins H gb e):=((Kept.refl _ _).mO gb).ins (TG.rk hm) e
 obtain⟨gc,cc,h1,h2,h3⟩:=h
 have Od:gc∈G.cb:=by rw[h1];exact List.mem_singleton.2 rfl
 exact⟨gc,cc,h1,h2,h3.le k.le (k.same _ (TG.s9 Od) (TG.vu nd Od (.inl hm)))⟩
structure Sz(N:Nat)(T:ao):Prop where
 A:∀i,i<T.m→∀j,j≤T.n→aK (T.A i j)≤N
 c:∀j,j≤T.n→aK (T.c j)≤N
end
end Go.ar
namespace Go.ar
open Go.Proofs Num Lp
section
variable {H:Heap} {G:TG} {L:TL} {T:ao} {N:Nat} {fs:List Value} {f:Rat}
theorem Xr(h:cK H G L T){i r:Nat}{p q:Nat×Nat}(hp:G.rg[i]? = some p)(hq:G.rg[r]? = some q)(a6:i≠r)(hf:aZ (rem H G.gs) fs f)(hN:(N:Int)≤549755813888)(hw:(L.w:Int)≤1000000)(sf:aK f≤N)(si:∀j,j≤L.w→aK (T.A i j)≤N)(sr:∀j,j≤L.w→aK (T.A r j)≤N):
  Fn Tryz.prog 61 #[.pointer (some ⟨G.g,0,none⟩),.slice (some ⟨p.1,0,none⟩) (L.w+1) p.2,.int .i64 (r:Int),.agg fs.toArray] H (fun _ H'=>cK H' G L (T.setRow i (fun j=>T.A i j-f*T.A r j))∧j9 G.gs p.1 H H'):=by
 obtain⟨nQ,mr,gn⟩:=h.rows
 refine(N7 (N:=N) h.ne G.nR (TG.l5 hp) (TG.l5 hq) (TG.Oc h.nd hp hq a6) (TG.vt h.nd (.inr (.inr ⟨i,p,hp,rfl⟩))) h.st rfl mr ?_ (gn r q hq) (h.row r q hq) (h.row i p hp) hf hN (by omega) sf (fun j hj=>sr j (by omega)) (fun j hj=>si j (by omega))).mono fun v H' hh=>⟨h.setRow hp hh.1 hh.2,hh.1⟩
 rw[←h.ku];exact(List.getElem?_eq_some_iff.1 hq).1
theorem Oe(h:cK H G L T)(hc:fj H G L T){r:Nat}{q:Nat×Nat}(hq:G.rg[r]? = some q)(hf:aZ (rem H G.gs) fs f)(hN:(N:Int)≤549755813888)(hw:(L.w:Int)≤1000000)(sf:aK f≤N)(si:∀j,j≤L.w→aK (T.c j)≤N)(sr:∀j,j≤L.w→aK (T.A r j)≤N):
  Fn Tryz.prog 61 #[.pointer (some ⟨G.g,0,none⟩),G.cv,.int .i64 (r:Int),.agg fs.toArray] H (fun _ H'=>cK H' G L {T with c:=fun j=>T.c j-f*T.A r j}∧fj H' G L {T with c:=fun j=>T.c j-f*T.A r j}∧Heap.le (rem H G.gs) (rem H' G.gs)):=by
 obtain⟨nQ,mr,gn⟩:=h.rows
 obtain⟨gc,cc,h1,h2,h3⟩:=hc
 have hm:gc∈G.cb:=by rw[h1];exact List.mem_singleton.2 rfl
 rw[h2]
 refine(N7 (N:=N) h.ne G.nR (TG.s9 hm) (TG.l5 hq) (TG.vu h.nd hm (.inr ⟨r,q,hq,rfl⟩)) (TG.vt h.nd (.inl hm)) h.st rfl mr ?_ (gn r q hq) (h.row r q hq) h3 hf hN (by omega) sf (fun j hj=>sr j (by omega)) (fun j hj=>si j (by omega))).mono fun v H' hh=>⟨h.Xq h1 hh.1 hh.2,⟨gc,cc,h1,h2,hh.2⟩,hh.1.le⟩
 rw[←h.ku];exact(List.getElem?_eq_some_iff.1 hq).1
end
theorem Xs{B:Nat→Nat}{m r s:Nat}:(iv B m).set r (.int .i64 (s:Int))=iv (fun i=>if i=r then s else B i) m:=by
 apply List.ext_getElem?
 intro i
 by_cases hi:i<m
 ·by_cases e:i=r
  ·subst e
   rw[List.getElem?_set_self (by rw[Eu];exact hi),rj hi,if_pos rfl]
  ·rw[List.getElem?_set_ne (fun e'=>e e'.symm),rj hi,rj hi,if_neg e]
 ·rw[List.getElem?_eq_none (by rw[List.length_set,Eu];omega),List.getElem?_eq_none (by rw[Eu];omega)]
def iN(T:ao)(r s k:Nat):ao:={T with A:=fun i=>if i=r then(fun j=>T.A r j/T.A r s)else if i<k then(fun j=>T.A i j-T.A i s*(T.A r j/T.A r s))else T.A i}
theorem Xt{T:ao}{r s k:Nat}(hk:k≠r)(i j:Nat):(iN T r s (k+1)).A i j=((iN T r s k).setRow k (fun j=>(iN T r s k).A k j-T.A k s*(iN T r s k).A r j)).A i j:=by
 unfold ao.setRow iN
 simp only
 by_cases e1:i=k
 ·subst e1
  rw[if_neg hk,if_pos (by omega),if_pos rfl,if_neg hk,if_neg (by omega),if_pos trivial]
 ·rw[if_neg e1]
  by_cases e2:i=r
  ·rw[if_pos e2,if_pos e2]
  ·rw[if_neg e2,if_neg e2]
   by_cases e3:i<k
   ·rw[if_pos (by omega),if_pos e3]
   ·rw[if_neg (by omega),if_neg e3]
theorem Xu{T:ao}{r s k:Nat}(hk:k=r)(i j:Nat):(iN T r s (k+1)).A i j=(iN T r s k).A i j:=by
 unfold iN
 simp only
 by_cases e2:i=r
 ·rw[if_pos e2,if_pos e2]
 ·rw[if_neg e2,if_neg e2]
  by_cases e3:i<k
  ·rw[if_pos (by omega),if_pos e3]
  ·rw[if_neg (by omega),if_neg e3]
theorem cK.get{H:Heap}{G:TG}{L:TL}{T:ao}(h:cK H G L T){i:Nat}(hi:i<T.m):∃p,G.rg[i]? = some p:=⟨_,List.getElem?_eq_getElem (by rw[h.ku];exact hi)⟩
theorem Of{H:Heap}{G:TG}{L:TL}{T:ao}{N r s:Nat}(h:cK H G L T)(hc:fj H G L T)(hr:r<T.m)(hs:s<L.w)(hp:T.A r s≠0)(hz:Sz N T)(Xv:Sz N (T.bP r s))(hN:(N:Int)≤549755813888)(hw:(L.w:Int)≤1000000)(hm:(T.m:Int)≤1000000):
 Fn Tryz.prog 63 #[.pointer (some ⟨G.g,0,none⟩),.int .i64 (r:Int),.int .i64 (s:Int)] H (fun _ H'=>cK H' G L (T.bP r s)∧fj H' G L (T.bP r s)∧Heap.le (rem H G.gs) (rem H' G.gs)):=by
 obtain⟨pr,nS⟩:=h.get hr
 obtain⟨nQ,mr,gn⟩:=h.rows
 have oS:s≤T.n:=by rw[h.n];omega
 have Og:∀j,j≤L.w→aK (T.A r j/T.A r s)≤N:=fun j hj=>by
  have:=Xv.A r hr j (by show j≤T.n;rw[h.n];exact hj)
  simpa [ao.bP]using this
 have Ev:∀i,i<T.m→∀j,j≤L.w→aK (T.A i j)≤N:=fun i hi j hj=>hz.A i hi j (by rw[h.n];exact hj)
 obtain⟨xp,np,dp,bp,jm,Xw,vv⟩:=(h.row r pr nS).rd (eF (show s<L.w+1 by omega));refine aW (args:=[_,_,_]) Tryz.func63 rfl rfl Tryz.ntmps63 rfl rfl fun w0=> ?_;refine aj [0,1,2] rfl ?_;refine af (ab 2 rfl (a4 ag rfl rfl rfl (aQ ag rfl rfl rfl (h.cell rfl) (ab 1 rfl (a9 ag rfl rfl rfl rfl rfl (mr.le (bn _ _)) (by rw[Int.toNat_natCast];exact gn r pr nS) (by omega) (by omega) fun _=> ?_)))));refine ab 1 rfl (ae [0,1,2,6] ?_);refine af (ab 2 rfl (cS (vs:=[.int .i64 np,.int .i64 dp,.pointer bp]) ag rfl rfl rfl rfl jm rfl (by decide) (by rw[Int.toNat_natCast];exact vv) (by omega) (by omega) fun _=> ?_));refine bD dd rfl ?_;obtain⟨ti,ak,al⟩:=bI;refine aM (.inl ⟨rfl,rfl⟩) rfl rfl rfl ak al rfl rfl rfl (ae [0,1,2,6,7] ?_);refine aq (af (ab 3 rfl (ae [0,1,2,6,7,23,24,25] ?_)));refine aD (gj (fun(k:Nat)=>L.w+1-k) (fun(k:Nat)=>put (put (put (put (put (put (put (put (emp) 0 (.val (.pointer (some ⟨G.g,0,none⟩)))) 1 (.val (.int .i64 (r:Int)))) 2 (.val (.int .i64 (s:Int)))) 6 (.val (.slice (some ⟨pr.1,0,none⟩) (L.w+1) pr.2))) 7 (.box [.int .i64 np,.int .i64 dp,.pointer bp])) 23 (.val (.slice (some ⟨pr.1,0,none⟩) (L.w+1) pr.2))) 24 (.val (.int .i64 ((L.w+1:Nat):Int)))) 25 (.val (.int .i64 (k:Int)))) (fun(k:Nat) H'=>j9 G.gs pr.1 H H'∧iL (rem H' G.gs) H' pr.1 (aN (jl (fun j=>T.A r j/T.A r s) (T.A r) k) (L.w+1))∧k≤L.w+1) 0 (⟨(Kept.refl _ _).mO _,by rw[N4];exact h.row r pr nS,Nat.zero_le _⟩) ay ?_)
 rintro k H2 ⟨fF,bU,gi⟩;have Xx:=Xw.le fF.le
 have rh:∀q,q∈G.gs→H2 q≠none:=fun q hq=>by
  by_cases e:q=pr.1
  ·
   obtain⟨xs,sz,h,_⟩:=bU;rw[e,h];simp
  ·rw[fF.same q hq e];exact h.ne q hq
 refine af (ab 1 rfl (ae [0,1,2,6,7,23,24,25,26] ?_));refine aq (az rfl (fun hb=> ?_) (fun hb=> ?_))
 ·
  have ew:k<L.w+1:=by simp at hb;omega
  obtain⟨xl,nl,dl,bl,s8,xQ,cj⟩:=bU.rd (eF ew);rw[show jl (fun j=>T.A r j/T.A r s) (T.A r) k k=T.A r k by simp[jl]]at xQ;have IB:=Ev r hr k (by omega);have Oa:=Ev r hr s (by omega);refine ax (aj [0,1,2,6,7,23,24,25] rfl ?_);refine aq (aD (af (ab 1 rfl (cS (vs:=[.int .i64 nl,.int .i64 dl,.pointer bl]) ag rfl rfl rfl rfl s8 rfl (by decide) cj (by omega) (by omega) fun _=>(bD dd rfl (vr 1 ?_))))));obtain⟨ti,ak,al⟩:=bI;refine aM (.inl ⟨rfl,rfl⟩) rfl rfl rfl ak al rfl rfl rfl (ae [0,1,2,6,7,8,9,23,24,25] ?_);refine af (ab 1 rfl (au rfl rfl (Fn.oV rh (iK xQ (by omega))) ?_));rintro v3 H3 ⟨dC,fu,rfl⟩;have Et:=dC.ne rh;refine ab 1 rfl (ae [0,1,2,6,7,8,9,23,24,25,32] ?_);refine az rfl (fun hb=> ?_) (fun hb=> ?_)
  ·
   skip
   refine aF rfl (ab 4 rfl (au rfl rfl (Fn.iM Et (NV (N:=N) (xQ.le dC.le) (Xx.le dC.le) IB Oa (by omega) hp)) ?_));rintro v4 H4 ⟨ey,eZ,n4,d4,b4,rfl,cJ⟩;obtain⟨IC,Xo,mP,Ae⟩:=bU.le (dC.le.trans ey.le) ((ey.same _ (TG.l5 nS)).trans (dC.same _ (TG.l5 nS)));have ID:=Ae.len;rw[cE]at ID;obtain⟨ti,ak,al⟩:=bI;refine dP (.inl rfl) ag rfl rfl rfl (by omega) (by omega) (mP) rfl (by show 0+(L.w+1)*3≤IC.length;omega) ak al (fun _=>rfl) rfl rfl rfl fun _=> ?_;refine aA (aj [0,1,2,6,7,23,24,25] rfl ?_);refine aF rfl (aO rfl rfl ⟨by omega,by omega⟩ (ab 1 rfl (aA ?_)));exact⟨k+1,by omega,ay,((fF.trans (dC.mO _)).trans (ey.mO _)).ins (TG.l5 nS) _,by rw[bZ _ (TG.l5 nS)];exact iL.set Ae ew cJ (by rw[bx,Nat.zero_add];rfl),by omega⟩
  ·
   have rp:T.A r k=0:=s4 (by simpa using hb);refine ax (aj [0,1,2,6,7,23,24,25] rfl ?_);refine aF rfl (aO rfl rfl ⟨by omega,by omega⟩ (ab 1 rfl (aA ?_)));exact⟨k+1,by omega,ay,fF.trans (dC.mO _),by rw[←N2 (show (fun j=>T.A r j/T.A r s) k=T.A r k by show T.A r k/T.A r s=T.A r k;rw[rp,Rat.div_def,Rat.zero_mul])];exact bU.le dC.le (dC.same _ (TG.l5 nS)),by omega⟩
 ·
  have hb:L.w+1≤k:=by simp at hb;omega
  obtain rfl:k=L.w+1:=by omega
  rw[N5]at bU;have dA:=fF.le;have qX:=(hc.setRow h.nd nS fF (fun j=>T.A r j/T.A r s)).congr (T':=iN T r s 0) (fun j _=>rfl);have h3:=(h.setRow nS fF bU).congr (T':=iN T r s 0) rfl rfl (fun i hi j hj=>by simp only[iN,ao.setRow];split <;> rfl) (fun i hi=>rfl);refine bC (aj [0,1,2] rfl ?_);refine aq (af (ab 2 rfl (a4 ag rfl rfl rfl (aQ ag rfl rfl rfl (h3.cell rfl) (ab 2 rfl (ae [0,1,2,43,44,45] ?_))))));refine aD (gj (fun(k:Nat)=>T.m-k) (fun(k:Nat)=>put (put (put (put (put (put (emp) 0 (.val (.pointer (some ⟨G.g,0,none⟩)))) 1 (.val (.int .i64 (r:Int)))) 2 (.val (.int .i64 (s:Int)))) 43 (.val (.slice G.Ar T.m G.cr))) 44 (.val (.int .i64 (T.m:Int)))) 45 (.val (.int .i64 (k:Int)))) (fun(k:Nat) H'=>cK H' G L (iN T r s k)∧fj H' G L (iN T r s k)∧Heap.le (rem H G.gs) (rem H' G.gs)∧k≤T.m) 0 (⟨h3,qX,dA,Nat.zero_le _⟩) ay ?_);rintro k H4 ⟨h4,uN,eY,ey⟩;refine af (ab 1 rfl (ae [0,1,2,43,44,45,46] ?_));refine aq (az rfl (fun hb=> ?_) (fun hb=> ?_))
  ·
   have iO:k<T.m:=by simpa using hb
   obtain⟨pk,mQ⟩:=h.get iO;obtain⟨Xy,IF,mI⟩:=h4.rows;refine ax (aj [0,1,2,43,44,45] rfl ?_);refine aq (aD (af (ab 1 rfl (a9 ag rfl rfl rfl rfl rfl (IF.le (bn _ _)) (by rw[Int.toNat_natCast];exact mI k pk mQ) (by omega) (by omega) fun _=> ?_))));refine ab 2 rfl (ae [0,1,2,10,11,43,44,45] ?_);refine af (ab 3 rfl (ae [0,1,2,11,43,44,45,52] ?_));refine az rfl (fun hb=> ?_) (fun hb=> ?_)
   ·
    have sI:k≠r:=by simp at hb;omega
    obtain⟨xk,nk,dk,bk,Ew,Ag,Ex⟩:=(h4.row k pk mQ).rd (eF (show s<L.w+1 by omega));rw[show (iN T r s k).A k s=T.A k s by simp[iN,sI]]at Ag;refine aF rfl (ab 5 rfl (cS (vs:=[.int .i64 nk,.int .i64 dk,.pointer bk]) ag rfl rfl rfl rfl Ew rfl (by decide) (by rw[Int.toNat_natCast];exact Ex) (by omega) (by omega) fun _=> ?_));refine au rfl rfl (Xr (N:=N) h4 mQ nS sI Ag hN hw (Ev k iO s (by omega)) (fun j hj=>by simpa [iN,sI]using Ev k iO j hj) (fun j hj=>by simpa [iN]using Og j hj)) ?_;rintro v5 H5 ⟨h5,Ah⟩;refine aA (aj [0,1,2,43,44,45] rfl ?_);refine aF rfl (aO rfl rfl ⟨by omega,by omega⟩ (ab 1 rfl (aA ?_)));exact⟨k+1,by omega,ay,h5.congr rfl rfl (fun i hi j hj=>Xt sI i j) (fun i hi=>rfl),(uN.setRow h4.nd mQ Ah (fun _=>0)).congr (fun j _=>rfl),eY.trans Ah.le,by omega⟩
   have sI:k=r:=by simp at hb;omega
   refine ax (aj [0,1,2,43,44,45] rfl ?_);refine aF rfl (aO rfl rfl ⟨by omega,by omega⟩ (ab 1 rfl (aA ?_)));exact⟨k+1,by omega,ay,h4.congr rfl rfl (fun i hi j hj=>Xu sI i j) (fun i hi=>rfl),uN.congr (fun j _=>rfl),eY,by omega⟩
  have hb:T.m≤k:=by simpa using hb
  obtain rfl:k=T.m:=by omega
  obtain⟨gc,cc,xS,tc,vw⟩:=id uN;obtain⟨xc,nc,dc,bc,te,so,Ai⟩:=vw.rd (eF (show s<L.w+1 by omega))
  have fW:cell H4 ((⟨G.g,0,none⟩:Addr).add 7)=some (.slice (some ⟨gc,0,none⟩) (L.w+1) cc):=by rw[←tc];exact h4.cell rfl
  refine bC (aj [0,1,2] rfl ?_);refine cg .py [0,1,2,3,4,5,6,7,8,9,10,11,12,13] follows (by kernel_rfl) ?_;refine ab 3 rfl (a4 ag rfl rfl rfl (aQ ag rfl rfl rfl (fW) (ab 3 rfl (a4 ag rfl rfl rfl (aQ ag rfl rfl rfl (fW) (ab 1 rfl (cS (vs:=[.int .i64 nc,.int .i64 dc,.pointer bc]) ag rfl rfl rfl rfl te rfl (by decide) (by rw[Int.toNat_natCast];exact Ai) (by omega) (by omega) fun _=> ?_)))))));refine Nc rfl rfl (by rw[←tc];exact Oe (N:=N) h4 uN nS so hN hw (hz.c s oS) (fun j hj=>hz.c j (by rw[h.n];exact hj)) (fun j hj=>by simpa [iN]using Og j hj)) ?_;rintro v6 H6 ⟨h6,IG,nT⟩
  obtain⟨gb,cb,sz,vc,iP,bH⟩:∃gb cb sz,G.bb = [gb]∧G.bv = .slice (some ⟨gb,0,none⟩) T.m cb∧H6 gb=some ⟨iv T.B T.m,sz,3,true⟩:=by
   rcases h6.basis with h7 | h7
   ·
    have h8:T.m=0:=h7.1
    omega
   ·exact h7
  refine ae [0,1,2] ?_;refine aF rfl (ab 2 rfl (a4 ag rfl rfl rfl (aQ ag rfl rfl rfl (show cell H6 _=some (.slice (some ⟨gb,0,none⟩) T.m cb)from by rw[←iP];exact h6.cell rfl) ?_)));refine vr 2 ?_;obtain⟨ti,ak,al⟩:=oF;refine dP (.inl rfl) ag rfl rfl rfl (by omega) (by omega) (bH) rfl (by show 0+T.m*1≤(iv T.B T.m).length;rw[Eu];omega) ak al (fun _=>rfl) rfl rfl rfl fun _=> ?_;refine aA ?_;refine⟨.inl rfl,_,.nil,?_⟩
  have he:({(⟨iv T.B T.m,sz,3,true⟩:aG)with xs:=aC (iv T.B T.m) (0+((r:Int)).toNat*1) [.int .i64 (s:Int)]}:aG)=⟨iv (fun i=>if i=r then s else T.B i) T.m,sz,3,true⟩:=by
   rw[Int.toNat_natCast,Nat.mul_one,Nat.zero_add,←Xs];rfl
  refine⟨(h6.IE (r:=r) (s:=s) (sz:=sz) vc iP he).congr (T':=T.bP r s) rfl rfl (fun i hi j hj=> ?_) (fun i hi=>rfl),(IG.IE h6.nd vc _ (fun _=>0)).congr (T':=T.bP r s) (fun j hj=> ?_),?_⟩
  ·
   have eJ:i<T.m:=hi
   simp only[ao.bP,iN]
   by_cases e:i=r
   ·simp[e]
   ·simp[e,eJ]
  ·simp[ao.bP,iN]
  have Ey:gb∈G.gs:=TG.rk (by rw[vc];exact List.mem_singleton.2 rfl);rw[bZ _ Ey];exact eY.trans nT
end Go.ar
namespace Go.ar
open Go.Proofs Num Lp
theorem vx{q:Rat}:0≤fK q↔0≤q:=by
 unfold fK
 by_cases h:q<0
 ·rw[if_pos h];constructor <;> intro h' <;> first | omega | grind
 ·rw[if_neg h]
  by_cases e:q=0
  ·rw[if_pos e];constructor <;> intro h' <;> first | omega | grind
  ·rw[if_neg e];constructor <;> intro h' <;> first | omega | grind
theorem Ez{q:Rat}:fK q≤0↔q≤0:=by
 unfold fK
 by_cases h:q<0
 ·rw[if_pos h];constructor <;> intro h' <;> first | omega | grind
 ·rw[if_neg h]
  by_cases e:q=0
  ·rw[if_pos e];constructor <;> intro h' <;> first | omega | grind
  ·rw[if_neg e];constructor <;> intro h' <;> first | omega | grind
theorem Aj{q:Rat}:fK q<0↔q<0:=by
 have:=vx (q:=q)
 constructor
 ·intro h;false_or_by_contra;have:=this.2 (by grind);omega
 ·intro h;false_or_by_contra;have:=this.1 (by omega);grind
theorem Oh{q:Rat}:0<fK q↔0<q:=by
 have:=Ez (q:=q)
 constructor
 ·intro h;false_or_by_contra;have:=this.2 (by grind);omega
 ·intro h;false_or_by_contra;have:=this.1 (by omega);grind
theorem xT{q:Rat}:fK q=0↔q=0:=by
 constructor
 ·exact s4
 ·intro h;rw[h];rfl
theorem Xz(q:Rat):aK q⁻¹≤aK q:=by
 by_cases h:q=0
 ·rw[h,Rat.inv_zero];exact Nat.le_refl _
 ·have hn:0<q.num.natAbs:=by
   have:q.num≠0:=fun e=>h (Rat.num_eq_zero.1 e)
   omega
  have e:=MU (g:=decide (q.num<0)) (m:=q.num.natAbs) (e:=q.den) hn
  rw[zL]at e
  have h1:=jB (Nat.div_le_self q.den (Nat.gcd q.den q.num.natAbs))
  have h2:=jB (Nat.div_le_self q.num.natAbs (Nat.gcd q.den q.num.natAbs))
  rw[e]
  unfold aK
  rw[uM hn,sL hn];omega
theorem IH(p q:Rat):aK (p/q)≤aK p+aK q:=by
 rw[Rat.div_def]
 have h1:=pU p q⁻¹
 have h2:=Xz q
 omega
def Found(T:ao)(s k:Nat)(row:Int)(K:Heap)(ls:List Value):Prop:=
 (row = -1∧∀i,i<k→T.A i s≤0)∨∃r:Nat,row=(r:Int)∧r<k∧0<T.A r s∧aZ K ls (T.A r T.n/T.A r s)∧
  ∀i,i<k→0<T.A i s→T.A r T.n/T.A r s<T.A i T.n/T.A i s∨(T.A r T.n/T.A r s=T.A i T.n/T.A i s∧T.B r≤T.B i)
section
variable {T:ao} {s k:Nat} {row:Int} {K K':Heap} {ls:List Value}
theorem Found.le(h:Found T s k row K ls)(hl:Heap.le K K'):Found T s k row K' ls:=by
 rcases h with h | ⟨r,h1,h2,h3,h4,h5⟩
 ·exact .inl h
 ·exact .inr ⟨r,h1,h2,h3,h4.le hl,h5⟩
theorem Found.skip(h:Found T s k row K ls)(hk:T.A k s≤0):Found T s (k+1) row K ls:=by
 rcases h with ⟨h1,h2⟩ | ⟨r,h1,h2,h3,h4,h5⟩
 ·exact .inl ⟨h1,fun i hi=>by
   by_cases e:i=k
   ·rw[e];exact hk
   ·exact h2 i (by omega)⟩
 ·exact .inr ⟨r,h1,by omega,h3,h4,fun i hi hp=>by
   by_cases e:i=k
   ·rw[e]at hp;grind
   ·exact h5 i (by omega) hp⟩
theorem Found.new{Oi:List Value}(h:Found T s k row K ls)(hk:0<T.A k s)(hn:aZ K Oi (T.A k T.n/T.A k s))(hl:row = -1∨∀r:Nat,row=(r:Int)→T.A k T.n/T.A k s<T.A r T.n/T.A r s):Found T s (k+1) (k:Int) K Oi:=by
 refine .inr ⟨k,rfl,by omega,hk,hn,fun i hi hp=> ?_⟩
 by_cases e:i=k
 ·rw[e];exact .inr ⟨rfl,Nat.le_refl _⟩
 ·rcases h with ⟨h1,h2⟩ | ⟨r,h1,h2,h3,h4,h5⟩
  ·have:=h2 i (by omega);grind
  ·have h6:T.A k T.n/T.A k s<T.A r T.n/T.A r s:=by
    rcases hl with hl | hl
    ·omega
    ·exact hl r h1
   rcases h5 i (by omega) hp with h7 | h7
   ·left;grind
   ·left;rw[←h7.1];exact h6
theorem Found.tie(h:Found T s k row K ls)(hk:0<T.A k s){r:Nat}(hr:row=(r:Int))(he:T.A k T.n/T.A k s=T.A r T.n/T.A r s)(hB:T.B k<T.B r):Found T s (k+1) (k:Int) K ls:=by
 rcases h with ⟨h1,h2⟩ | ⟨r',h1,h2,h3,h4,h5⟩
 ·omega
 ·obtain rfl:r'=r:=by omega
  refine .inr ⟨k,rfl,by omega,hk,by rw[he];exact h4,fun i hi hp=> ?_⟩
  by_cases e:i=k
  ·rw[e];exact .inr ⟨rfl,Nat.le_refl _⟩
  ·rcases h5 i (by omega) hp with h7 | h7
   ·left;rw[he];exact h7
   ·right;exact⟨by rw[he];exact h7.1,by omega⟩
theorem Found.stay(h:Found T s k row K ls)(hk:0<T.A k s){r:Nat}(hr:row=(r:Int))(he:T.A r T.n/T.A r s<T.A k T.n/T.A k s∨(T.A r T.n/T.A r s=T.A k T.n/T.A k s∧T.B r≤T.B k)):Found T s (k+1) row K ls:=by
 rcases h with ⟨h1,h2⟩ | ⟨r',h1,h2,h3,h4,h5⟩
 ·omega
 ·obtain rfl:r'=r:=by omega
  refine .inr ⟨r',h1,by omega,h3,h4,fun i hi hp=> ?_⟩
  by_cases e:i=k
  ·rw[e];exact he
  ·exact h5 i (by omega) hp
end
theorem Oj{H:Heap}{G:TG}{L:TL}{T0:ao}{N:Nat}{I:ao→Prop}(h:cK H G L T0)(hc:fj H G L T0)(hI:I T0)(Ol:∀S r s,I S→S.p5 L.u r s→I (S.bP r s))(hinv:∀S,I S→S.WF∧S.ji∧Sz N S∧S.m=T0.m∧S.n=T0.n)
 (hN:(N:Int)≤137438953472) (hw:(L.w:Int)≤1000000) (hm:(T0.m:Int)≤1000000):
 Fn Tryz.prog 26 #[.pointer (some ⟨G.g,0,none⟩)] H (fun v H'=>∃T,I T∧cK H' G L T∧fj H' G L T∧Heap.le (rem H G.gs) (rem H' G.gs)∧((v = .int .i64 (-1)∧∀j,j<L.u→0≤T.c j)∨∃s:Nat,v = .int .i64 (s:Int)∧s<L.u∧T.c s<0∧∀i,i<T.m→T.A i s≤0)):=by
 have kz:=h.uw;refine aW (args:=[_]) Tryz.func26 rfl rfl Tryz.ntmps26 rfl rfl fun w0=> ?_;refine aj [0] rfl ?_;refine af (ab 1 rfl (ae [0] ?_));refine aD (LX (γ:=ao) (ao.Step L.u) (fun(T:ao)=>put (emp) 0 (.val (.pointer (some ⟨G.g,0,none⟩)))) (fun(T:ao) H'=>cK H' G L T∧fj H' G L T∧I T∧Heap.le (rem H G.gs) (rem H' G.gs)) (T0) ((by obtain⟨h1,h2,_⟩:=hinv T0 hI;exact ao.Wo h1 h2 (by rw[h.n];exact kz))) ay (⟨h,hc,hI,.refl _⟩) ?_);rintro T H1 ⟨h1,iJ,Ak,eM⟩;obtain⟨Il,rb,bV,Om,II⟩:=hinv T Ak;have XA:T.n=L.w:=h1.n
 have XB:(T.m:Int)≤1000000:=by rw[Om];exact hm
 refine aD (af (ab 1 rfl (ae [0,3] ?_)));refine oD (fun(k:Nat)=>put (put (emp) 0 (.val (.pointer (some ⟨G.g,0,none⟩)))) 3 (.val (.int .i64 (k:Int)))) (fun(k:Nat) H'=>Kept G.gs H1 H'∧((k=L.u∧∀j,j<L.u→0≤T.c j)∨(k<L.u∧T.c k<0∧∀j,j<k→0≤T.c j))) ?_ ?_
 ·
  refine aD (gj (fun(k:Nat)=>L.u-k) (fun(k:Nat)=>put (put (emp) 0 (.val (.pointer (some ⟨G.g,0,none⟩)))) 3 (.val (.int .i64 (k:Int)))) (fun(k:Nat) H'=>Kept G.gs H1 H'∧k≤L.u∧∀j,j<k→0≤T.c j) 0 (⟨.refl _ _,Nat.zero_le _,fun j hj=>by omega⟩) ay ?_);rintro k H2 ⟨gi,hku,oC⟩;have h2:=h1.kept gi;have nI:=iJ.kept gi;refine aq ?_
  by_cases a7:k<L.u
  ·
   obtain⟨gc,cc,xS,tc,vw⟩:=id nI;obtain⟨xc,nc,dc,bc,te,so,Ai⟩:=vw.rd (eF (show k<L.w+1 by omega))
   have fW:cell H2 ((⟨G.g,0,none⟩:Addr).add 7)=some (.slice (some ⟨gc,0,none⟩) (L.w+1) cc):=by rw[←tc];exact h2.cell rfl
   have Eo:=bV.c k (by omega);refine af (ab 3 rfl (a4 ag rfl rfl rfl (aQ ag rfl rfl rfl (h2.cell rfl) (aS true rfl rfl (sA (by omega)) (ab 3 rfl (a4 ag rfl rfl rfl (aQ ag rfl rfl rfl (fW) (ab 1 rfl (cS (vs:=[.int .i64 nc,.int .i64 dc,.pointer bc]) ag rfl rfl rfl rfl te rfl (by decide) Ai (by omega) (by omega) fun _=>(au rfl rfl (Fn.oV h2.ne (iK so (by omega))) ?_))))))))));rintro v3 H3 ⟨dC,fu,rfl⟩;refine ab 2 rfl (ae [0,3,25] ?_);refine az rfl (fun hb=> ?_) (fun hb=> ?_)
   ·
    have hb:0≤T.c k:=vx.1 (by simpa using hb);refine ax (aj [0,3] rfl ?_);refine aD (aF rfl (ab 1 rfl (aO rfl rfl ⟨by omega,by omega⟩ (ab 1 rfl (aA ?_)))));exact⟨k+1,by omega,ay,gi.trans dC,by omega,fun j hj=>by by_cases e:j=k;(rw[e];exact hb);exact oC j (by omega)⟩
   have hb:T.c k<0:=Aj.1 (by simpa using hb);refine bC ?_;exact⟨k,ay,gi.trans dC,.inr ⟨a7,hb,oC⟩⟩
  ·
   skip
   refine af (ab 3 rfl (a4 ag rfl rfl rfl (aQ ag rfl rfl rfl (h2.cell rfl) (aS false rfl rfl (pM (by omega)) (ab 11 rfl (ae [0,3,25] ?_))))));refine dG rfl (bC ?_);exact⟨k,ay,gi,.inl ⟨by omega,fun j hj=>oC j (by omega)⟩⟩
 ·
  rintro k H3 ⟨dC,On⟩;have h3:=h1.kept dC;have qX:=iJ.kept dC;refine aq (af (ab 3 rfl (a4 ag rfl rfl rfl (aQ ag rfl rfl rfl (h3.cell rfl) (ab 1 rfl (ae [0,3,33] ?_))))));refine az rfl (fun hb=> ?_) (fun hb=> ?_)
  ·
   have hb:k=L.u:=by simp at hb;omega
   have za:∀j,j<L.u→0≤T.c j:=by
    rcases On with h5 | h5
    ·exact h5.2
    ·omega
   refine af (ab 1 rfl (ae [2] ?_));refine aw ⟨.inr rfl,_,.tmp rfl (.nil),?_⟩;exact⟨T,Ak,h3,qX,eM.trans dC.le,.inl ⟨rfl,za⟩⟩
  have hb:k≠L.u:=by simp at hb;omega
  obtain⟨a7,fN,oC⟩:k<L.u∧T.c k<0∧∀j,j<k→0≤T.c j:=by
   rcases On with h5 | h5
   ·omega
   ·exact h5
  refine ax (aj [0,3] rfl ?_);refine af (ab 1 rfl (ae [0,3,4] ?_));refine af (bD dd rfl (ae [0,3,4,5] ?_));refine aq (af (ab 2 rfl (a4 ag rfl rfl rfl (aQ ag rfl rfl rfl (h3.cell rfl) (ab 2 rfl (ae [0,3,4,5,37,38,39] ?_))))));refine aD (jb (fun(q:Nat)(row:Int)(ls:Int×Int×Option Addr)=>T.m-q) (fun(q:Nat)(row:Int)(ls:Int×Int×Option Addr)=>put (put (put (put (put (put (put (emp) 0 (.val (.pointer (some ⟨G.g,0,none⟩)))) 3 (.val (.int .i64 (k:Int)))) 4 (.val (.int .i64 row))) 5 (.box [.int .i64 ls.1,.int .i64 ls.2.1,.pointer ls.2.2])) 37 (.val (.slice G.Ar T.m G.cr))) 38 (.val (.int .i64 (T.m:Int)))) 39 (.val (.int .i64 (q:Int)))) (fun(q:Nat)(row:Int)(ls:Int×Int×Option Addr) H'=>Kept G.gs H3 H'∧q≤T.m∧Found T k q row (rem H' G.gs) [.int .i64 ls.1,.int .i64 ls.2.1,.pointer ls.2.2]) 0 (-1) (0,0,none) (⟨.refl _ _,Nat.zero_le _,.inl ⟨rfl,fun i hi=>by omega⟩⟩) ay ?_);rintro q row ls H4 ⟨ey,sw,Al⟩;have h4:=h3.kept ey;refine af (ab 1 rfl (ae [0,3,4,5,37,38,39,40] ?_));refine aq (az rfl (fun hb=> ?_) (fun hb=> ?_))
  ·
   have EA:q<T.m:=by simpa using hb
   obtain⟨pq,jU⟩:=h1.get EA;obtain⟨Xy,IF,mI⟩:=h4.rows;obtain⟨xk,nk,dk,bk,Ew,Ag,Ex⟩:=(h4.row q pq jU).rd (eF (show k<L.w+1 by omega));obtain⟨xw,nw,dw,bw,An,lK,Aq⟩:=(h4.row q pq jU).rd (eF (show L.w<L.w+1 by omega));have Eo:=bV.A q EA k (by omega);have gQ:=bV.A q EA L.w (by omega);refine ax (aj [0,3,4,5,37,38,39] rfl ?_);refine aq (aD (af (ab 1 rfl (a9 ag rfl rfl rfl rfl rfl (IF.le (bn _ _)) (by rw[Int.toNat_natCast];exact mI q pq jU) (by omega) (by omega) fun _=> ?_))));refine ab 2 rfl (ae [0,3,4,5,6,7,37,38,39] ?_);refine aq (af (ab 2 rfl (cS (vs:=[.int .i64 nk,.int .i64 dk,.pointer bk]) ag rfl rfl rfl rfl Ew rfl (by decide) (by rw[Int.toNat_natCast];exact Ex) (by omega) (by omega) fun _=> ?_)));refine au rfl rfl (Fn.oV h4.ne (iK Ag (by omega))) ?_;rintro v5 H5 ⟨ll,gL,rfl⟩;have h5:=h4.kept ll;refine ab 1 rfl (ae [0,3,4,5,6,7,37,38,39,49] ?_);refine az rfl (fun hb=> ?_) (fun hb=> ?_)
   ·
    have hb:T.A q k≤0:=Ez.1 (by simpa using hb);refine bC (aj [0,3,4,5,37,38,39] rfl ?_);refine aF rfl (aO rfl rfl ⟨by omega,by omega⟩ (ab 1 rfl (aA ?_)));exact⟨q+1,row,ls,by omega,ay,ey.trans ll,by omega,(Al.le ll.le).skip hb⟩
   have q8:0<T.A q k:=by
    have:¬fK (T.A q k)≤0:=by simpa using hb
    rw[Ez]at this;grind
   refine ax (aj [0,3,4,5,6,7,37,38,39] rfl ?_);refine cg .bR [0,1,2,3,4,5,6,7,8,9,10,11,12,13] follows (by kernel_rfl) ?_;refine ab 3 rfl (a4 ag rfl rfl rfl (aQ ag rfl rfl rfl (h5.xR) (cS (vs:=[.int .i64 nw,.int .i64 dw,.pointer bw]) ag rfl rfl rfl rfl (An.le gL) rfl (by decide) (by rw[Int.toNat_natCast];exact Aq) (by omega) (by omega) fun _=> ?_)));refine ab 2 rfl (cS (vs:=[.int .i64 nk,.int .i64 dk,.pointer bk]) ag rfl rfl rfl rfl (Ew.le gL) rfl (by decide) (by rw[Int.toNat_natCast];exact Ex) (by omega) (by omega) fun _=> ?_);refine aT rfl rfl (Fn.iM h5.ne (NV (N:=N) (lK.le ll.le) (Ag.le ll.le) gQ Eo (by omega) (by grind))) (fun _ _ h=>by first | exact h.le | exact h.1) ?_;rintro v6 H6 ⟨qb,iQ,nq,dq,bq,rfl,IJ⟩;have h6:=h5.kept qb;have XC:=IH (T.A q L.w) (T.A q k);rw[←XA]at IJ XC gQ;have Oo:=(Al.le ll.le).le qb.le;refine bD dd rfl ?_;obtain⟨ti,ak,al⟩:=bI;refine aM (.inl ⟨rfl,rfl⟩) rfl rfl rfl ak al rfl rfl rfl (ae [0,3,4,5,6,8,37,38,39] ?_);refine aD (oD (fun(bz:Bool)=>put (put (put (put (put (put (put (put (put (put (emp) 0 (.val (.pointer (some ⟨G.g,0,none⟩)))) 3 (.val (.int .i64 (k:Int)))) 4 (.val (.int .i64 row))) 5 (.box [.int .i64 ls.1,.int .i64 ls.2.1,.pointer ls.2.2])) 6 (.val (.int .i64 (q:Int)))) 8 (.box [.int .i64 nq,.int .i64 dq,.pointer bq])) 37 (.val (.slice G.Ar T.m G.cr))) 38 (.val (.int .i64 (T.m:Int)))) 39 (.val (.int .i64 (q:Int)))) 62 (.val (.bool bz))) (fun(bz:Bool) H'=>Kept G.gs H6 H'∧(bz=true→row = -1∨∀r:Nat,row=(r:Int)→T.A q T.n/T.A q k<T.A r T.n/T.A r k)∧(bz=false→∃r:Nat,row=(r:Int)∧r<q∧¬T.A q T.n/T.A q k<T.A r T.n/T.A r k)) ?_ ?_)
   ·
    refine af (ab 3 rfl (ae [0,3,4,5,6,8,37,38,39,62] ?_));refine az rfl (fun hb=> ?_) (fun hb=> ?_)
    ·
     have gS:row<0:=by simpa using hb
     refine ax ?_;exact⟨_,ay,.refl _ _,fun _=> .inl (by rcases Al with hx | hx;exact hx.1;obtain⟨r,hr,_⟩:=hx;omega),fun e=>by rw[hb]at e;cases e⟩
    have gS:¬row<0:=by simpa using hb
    obtain⟨r1,xU,Oq,XD,xV,_⟩:∃r:Nat,row=(r:Int)∧r<q∧0<T.A r k∧aZ (rem H6 G.gs) [.int .i64 ls.1,.int .i64 ls.2.1,.pointer ls.2.2] (T.A r T.n/T.A r k)∧True:=by
     rcases Oo with hx | ⟨r,h1,h2,h3,h4,_⟩
     ·omega
     ·exact⟨r,h1,h2,h3,h4,trivial⟩
    have xW:=IH (T.A r1 T.n) (T.A r1 k);have im:=bV.A r1 (by omega) T.n (by omega);have jY:=bV.A r1 (by omega) k (by omega);refine aF rfl (ab 2 rfl (au rfl rfl (Fn.iM h6.ne (vi (N:=2*N) IJ xV (by omega) (by omega) (by omega))) ?_));rintro va Ha ⟨kA,fJ,na,da,ba,rfl,s7⟩;have XE:=pV (T.A q T.n/T.A q k) (T.A r1 T.n/T.A r1 k);refine au rfl rfl (Fn.oV (kA.ne h6.ne) (iK s7 (by omega))) ?_;rintro vb Hb ⟨mR,eD,rfl⟩;refine ab 2 rfl (aA ?_);exact⟨_,ay,kA.trans mR,fun e=> .inr fun r hr=>(by have:=Aj.1 (of_decide_eq_true e);obtain rfl:r=r1:=(by omega);grind),fun e=>⟨r1,xU,Oq,fun a7=>of_decide_eq_false e (Aj.2 (by grind))⟩⟩
   rintro bz H7 ⟨tf,dZ,gS⟩;have h7:=h6.kept tf;have EB:=((ey.trans ll).trans qb).trans tf;have At:=Oo.le tf.le;have IK:=IJ.le tf.le;refine az rfl (fun hb=> ?_) (fun hb=> ?_)
   ·
    skip
    refine fc .bR [0,1,2,3] follows (by kernel_rfl) ?_;refine vr 3 ?_;obtain⟨ti,ak,al⟩:=bI;refine aM (.inl ⟨rfl,rfl⟩) rfl rfl rfl ak al rfl rfl rfl (aA (aj [0,3,4,5,37,38,39] rfl ?_));refine aF rfl (aO rfl rfl ⟨by omega,by omega⟩ (ab 1 rfl (aA ?_)));exact⟨q+1,(q:Int),(nq,dq,bq),by omega,ay,EB,by omega,At.new q8 IK (dZ hb)⟩
   obtain⟨r1,xU,Oq,acX⟩:=gS hb
   obtain⟨XD,xV⟩:0<T.A r1 k∧aZ (rem H7 G.gs) [.int .i64 ls.1,.int .i64 ls.2.1,.pointer ls.2.2] (T.A r1 T.n/T.A r1 k):=by
    rcases At with hx | ⟨r,h1,h2,h3,h4,_⟩
    ·omega
    ·
     obtain rfl:r=r1:=by omega
     exact⟨h3,h4⟩
   have xW:=IH (T.A r1 T.n) (T.A r1 k);have im:=bV.A r1 (by omega) T.n (by omega);have jY:=bV.A r1 (by omega) k (by omega);have XE:=pV (T.A q T.n/T.A q k) (T.A r1 T.n/T.A r1 k)
   obtain⟨gb,cb,sz,vc,iP,bH⟩:∃gb cb sz,G.bb = [gb]∧G.bv = .slice (some ⟨gb,0,none⟩) T.m cb∧H7 gb=some ⟨iv T.B T.m,sz,3,true⟩:=by
    rcases h7.basis with h8 | h8
    ·
     have:=h8.1
     omega
    ·exact h8
   have Ey:gb∈G.gs:=TG.rk (by rw[vc];exact List.mem_singleton.2 rfl)
   by_cases heq:T.A q T.n/T.A q k=T.A r1 T.n/T.A r1 k
   ·
    skip
    refine cg .bR [0,1,2,3,4,5,6,7,8,9,10,11,12,13,14,15,16,17,18,19,20,21,22] follows (by kernel_rfl) ?_;refine ab 2 rfl (aT rfl rfl (Fn.iM h7.ne (vi (N:=2*N) IK xV (by omega) (by omega) (by omega))) (fun _ _ h=>by first | exact h.le | exact h.1) ?_);rintro va Ha ⟨kA,fJ,na,da,ba,rfl,s7⟩;refine aT rfl rfl (Fn.oV (kA.ne h7.ne) (iK s7 (by omega))) (fun _ _ h=>by first | exact h.le | exact h.1) ?_;rintro vb Hb ⟨mR,eD,rfl⟩;have h8:=(h7.kept kA).kept mR
    have ln:cell Hb ((⟨G.g,0,none⟩:Addr).add 8)=some (.slice (some ⟨gb,0,none⟩) T.m cb):=by rw[←iP];exact h8.cell rfl
    have lR:Rd Hb (some ⟨gb,0,none⟩) (iv T.B T.m):=re (by rw[mR.same gb Ey,kA.same gb Ey];exact bH);refine aS true rfl rfl (lM (xT.2 (by rw[heq];grind))) ?_;refine ab 3 rfl (a4 ag rfl rfl rfl (aQ ag rfl rfl rfl (ln) (ab 1 rfl (a9 ag rfl rfl rfl rfl rfl (lR) (by rw[Int.toNat_natCast];exact rj EA) (by omega) (by omega) fun _=> ?_))));refine ab 2 rfl (a4 ag rfl rfl rfl (aQ ag rfl rfl rfl (ln) (ab 1 rfl (a9 ag rfl rfl rfl rfl rfl (lR) (by rw[xU,Int.toNat_natCast];exact rj (by omega)) (by omega) (by omega) fun _=> ?_))));refine ab 3 rfl (ae [0,3,4,5,6,37,38,39,72] ?_);refine az rfl (fun hb=> ?_) (fun hb=> ?_)
    ·
     have hB:T.B q<T.B r1:=by simp at hb;omega
     refine aF rfl (ab 2 rfl (aA (aj [0,3,4,5,37,38,39] rfl ?_)));refine aF rfl (aO rfl rfl ⟨by omega,by omega⟩ (ab 1 rfl (aA ?_)));exact⟨q+1,(q:Int),ls,by omega,ay,(EB.trans kA).trans mR,by omega,((At.le kA.le).le mR.le).tie q8 xU heq hB⟩
    have hB:T.B r1≤T.B q:=by simp at hb;omega
    refine ax (aj [0,3,4,5,37,38,39] rfl ?_);refine aF rfl (aO rfl rfl ⟨by omega,by omega⟩ (ab 1 rfl (aA ?_)));exact⟨q+1,row,ls,by omega,ay,(EB.trans kA).trans mR,by omega,((At.le kA.le).le mR.le).stay q8 xU (.inr ⟨heq.symm,hB⟩)⟩
   skip
   refine cg .bR [0,1,2,3,4,5,6,7,8,9,10,11,12,13,14,15,16,17,18,19,20,21,22] follows (by kernel_rfl) ?_;refine ab 2 rfl (aT rfl rfl (Fn.iM h7.ne (vi (N:=2*N) IK xV (by omega) (by omega) (by omega))) (fun _ _ h=>by first | exact h.le | exact h.1) ?_);rintro va Ha ⟨kA,fJ,na,da,ba,rfl,s7⟩;refine aT rfl rfl (Fn.oV (kA.ne h7.ne) (iK s7 (by omega))) (fun _ _ h=>by first | exact h.le | exact h.1) ?_;rintro vb Hb ⟨mR,eD,rfl⟩;refine aS false rfl rfl (lN (fun e=>heq (by have:=xT.1 e;grind))) ?_;refine ab 18 rfl (ae [0,3,4,5,6,37,38,39,72] ?_);refine dG rfl (ax (aj [0,3,4,5,37,38,39] rfl ?_));refine aF rfl (aO rfl rfl ⟨by omega,by omega⟩ (ab 1 rfl (aA ?_)));exact⟨q+1,row,ls,by omega,ay,(EB.trans kA).trans mR,by omega,((At.le kA.le).le mR.le).stay q8 xU (.inl (by grind))⟩
  have hb:T.m≤q:=by simpa using hb
  obtain rfl:q=T.m:=by omega
  have Ot:=dC.trans ey;refine bC (aj [0,3,4] rfl ?_);refine aq (af (ab 2 rfl (ae [0,3,4,98] ?_)));refine az rfl (fun hb=> ?_) (fun hb=> ?_)
  ·
   have gS:row<0:=by simpa using hb
   have za:∀i,i<T.m→T.A i k≤0:=by
    rcases Al with hx | ⟨r,hr,_⟩
    ·exact hx.2
    ·omega
   refine af (ab 2 rfl (ae [2] ?_));refine aw ⟨.inr rfl,_,.tmp rfl (.nil),?_⟩;exact⟨T,Ak,h4,qX.kept ey,eM.trans Ot.le,.inr ⟨k,rfl,a7,fN,za⟩⟩
  have gS:¬row<0:=by simpa using hb
  obtain⟨rr,vp,lq,jm,s8⟩:∃r:Nat,row=(r:Int)∧r<T.m∧0<T.A r k∧∀i,i<T.m→0<T.A i k→T.A r T.n/T.A r k<T.A i T.n/T.A i k∨(T.A r T.n/T.A r k=T.A i T.n/T.A i k∧T.B r≤T.B i):=by
   rcases Al with hx | ⟨r,h1,h2,h3,_,h5⟩
   ·omega
   ·exact⟨r,h1,h2,h3,h5⟩
  have kY:T.p5 L.u rr k:=⟨a7,fN,oC,lq,jm,s8⟩;obtain⟨_,_,XF,_,_⟩:=hinv _ (Ol _ _ _ Ak kY);refine ax (aj [0,3,4] rfl ?_);refine aF rfl (ab 3 rfl (au rfl rfl (by rw[vp];exact Of (N:=N) h4 (qX.kept ey) lq (by omega) (by grind) bV XF (by omega) hw XB) ?_));rintro v9 H9 ⟨h9,Ou,Aw⟩;refine aA ?_;exact⟨T.bP rr k,⟨rr,k,kY,rfl⟩,ay,h9,Ou,Ol _ _ _ Ak kY,(eM.trans Ot.le).trans Aw⟩
end Go.ar
namespace Go.ar
open Go.Proofs Num Lp
structure Ay(K H:Heap)(G:TG)(L:TL)(T:ao):Prop where
 kh:Heap.le K H
 cell:∀(k:Nat)(v:Value),(G.cells L.w L.u T.m)[k]? = some v→ar.cell H ((⟨G.g,0,none⟩:Addr).add k)=some v
 rows:∃xs,Rd H G.Ar xs∧∀i,i<T.m→∃p:Nat×Nat,xs[i]? = some (.slice (some ⟨p.1,0,none⟩) (L.w+1) p.2)∧iL K H p.1 (aN (T.A i) (L.w+1))
 basis:T.m=0∨∃gb cb,G.bv = .slice (some ⟨gb,0,none⟩) T.m cb∧Rd H (some ⟨gb,0,none⟩) (iv T.B T.m)
 Ov:T.m=0→∃A c,G.bv = .slice A 0 c
 plus:aH p9 1 H G.pv L.plus
 minus:aH vq 1 H G.mv L.minus
 gM:aH p9 1 H G.uv L.gM
 gB:aH aZ 3 K G.sv L.gB
theorem cK.w{H0 K H:Heap}{G:TG}{L:TL}{T:ao}(h:cK H0 G L T)(hle:Heap.le (rem H0 G.gs) K)(hk:Heap.le K H)(hs:∀q,q∈G.gs→H q=H0 q):Ay K H G L T where
 kh:=hk
 cell:=fun k v hv=>by
  have:=hs _ G.nR
  simp[ar.cell,jd,this,h.st,hv]
 rows:=by
  obtain⟨xs,h1,h2⟩:=h.rows
  refine⟨xs,h1.le (hle.trans hk),fun i hi=> ?_⟩
  obtain⟨p,hp⟩:=h.get hi
  exact⟨p,h2 i p hp,(h.row i p hp).le hle (hs _ (TG.l5 hp))⟩
 basis:=by
  rcases h.basis with h1 | ⟨gb,cb,sz,h1,h2,h3⟩
  ·exact .inl h1.1
  ·exact .inr ⟨gb,cb,h2,re (by rw[hs _ (TG.rk (by rw[h1];exact List.mem_singleton.2 rfl))];exact h3)⟩
 Ov:=fun hm=>by
  rcases h.basis with h1 | ⟨gb,cb,sz,h1,h2,h3⟩
  ·exact⟨none,0,h1.2.2⟩
  ·exact⟨_,cb,by rw[h2,hm]⟩
 plus:=(h.plus.le jH hle).le jH hk
 minus:=(h.minus.le qa hle).le qa hk
 gM:=(h.gM.le jH hle).le jH hk
 gB:=h.gB.le fi hle
theorem cK.self{H:Heap}{G:TG}{L:TL}{T:ao}(h:cK H G L T):Ay (rem H G.gs) H G L T:=h.w (.refl _) (bn _ _) (fun _ _=>rfl)
theorem Ay.bv{K H:Heap}{G:TG}{L:TL}{T:ao}(h:Ay K H G L T):∃A c,G.bv = .slice A T.m c∧Rd H A (iv T.B T.m):=by
 rcases h.basis with h1 | ⟨gb,cb,h1,h2⟩
 ·obtain⟨A,c,h2⟩:=h.Ov h1
  refine⟨A,c,by rw[h1];exact h2,fun i v hv=> ?_⟩
  rw[h1]at hv
  simp[iv]at hv
 ·exact⟨_,cb,h1,h2⟩
theorem aH.one{α:Type}{P:Heap→List Value→α→Prop}{H:Heap}{v:Value}{l:List α}(h:aH P 1 H v l):∃A c xs,v = .slice A l.length c∧Rd H A xs∧∀(i:Nat)(a:α),l[i]? = some a→∃u,xs[i]? = some u∧P H [u] a:=by
 obtain⟨A,c,xs,h1,_,h3,h4⟩:=h
 exact⟨A,c,xs,h1,h3,fun i a ha=>h4.one ha⟩
theorem aH.num{H:Heap}{v:Value}{l:List Rat}(h:aH aZ 3 H v l):∃A c xs,v = .slice A l.length c∧Rd H A xs∧∀(i:Nat)(q:Rat),l[i]? = some q→∃n d b,aZ H [.int .i64 n,.int .i64 d,.pointer b] q∧∀(j:Nat)(u:Value),[.int .i64 n,.int .i64 d,.pointer b][j]? = some u→xs[i*3+j]? = some u:=by
 obtain⟨A,c,xs,h1,_,h3,h4⟩:=h
 refine⟨A,c,xs,h1,h3,fun i q hq=> ?_⟩
 obtain⟨vs,_,h5,h6⟩:=h4.get hq
 obtain⟨n,d,b,rfl⟩:=h5.cells
 exact⟨n,d,b,h5,h6⟩
structure dJ(gs:List Nat)(H0 H:Heap)(z:Nat)(xs:List Value)(sz e:Nat):Prop where
 aB:H z=some ⟨xs,sz,e,true⟩
 zn:H0 z=none
 zg:¬z∈gs
 le:Heap.le (rem H0 gs) (rem H (z::gs))
 same:∀q,q∈gs→H q=H0 q
section
variable {gs:List Nat} {H0 H H':Heap} {z:Nat} {xs mh:List Value} {sz e:Nat}
theorem dJ.new(hn:∀q,q∈gs→H0 q≠none)(hz:H0 z=none):dJ gs H0 (ins H0 z ⟨xs,sz,e,true⟩) z xs sz e:=
 ⟨bx _ _ _,hz,fun h=>hn z h hz,by rw[q3 _ hz];exact .refl _,fun q hq=>bA _ _ (fun e=>hn q hq (by rw[e];exact hz))⟩
theorem dJ.ne(h:dJ gs H0 H z xs sz e)(hn:∀q,q∈gs→H0 q≠none):∀q,q∈z::gs→H q≠none:=fun q hq=>by
 rcases List.mem_cons.1 hq with rfl | hq
 ·rw[h.aB];simp
 ·rw[h.same q hq];exact hn q hq
theorem dJ.kept(h:dJ gs H0 H z xs sz e)(k:Kept (z::gs) H H'):dJ gs H0 H' z xs sz e:=
 ⟨by rw[k.same z (List.mem_cons_self ..)];exact h.aB,h.zn,h.zg,h.le.trans k.le,fun q hq=>(k.same q (List.mem_cons_of_mem _ hq)).trans (h.same q hq)⟩
theorem dJ.set(h:dJ gs H0 H z xs sz e){en:aG}(he:en=⟨mh,sz,e,true⟩):dJ gs H0 (ins H z en) z mh sz e:=
 ⟨by rw[bx,he],h.zn,h.zg,by rw[bZ _ (List.mem_cons_self ..)];exact h.le,fun q hq=>by rw[bA _ _ (fun(e':q=z)=>h.zg (by rw[←e'];exact hq))];exact h.same q hq⟩
theorem dJ.hle(h:dJ gs H0 H z xs sz e):Heap.le H0 H:=fun g en hg=>by
 by_cases hm:g∈gs
 ·exact⟨en,by rw[h.same g hm];exact hg,.refl en⟩
 ·obtain⟨e',h1,h2⟩:=h.le g en (by rw[bo hm];exact hg)
  obtain⟨Gr,h3,h4⟩:=bn H (z::gs) g e' h1
  exact⟨Gr,h3,h2.trans h4⟩
theorem dJ.done(h:dJ gs H0 H z xs sz e):Kept gs H0 H∧Heap.le (rem H (z::gs)) (rem H gs):=⟨⟨h.le.trans (DV H z gs),h.same⟩,DV H z gs⟩
theorem dJ.rd(h:dJ gs H0 H z xs sz e):Rd (rem H gs) (some ⟨z,0,none⟩) xs:=fun i v hv=>⟨_,rfl,by simp[ar.cell,jd,bo h.zg,h.aB,hv]⟩
theorem dJ.tab{H:Heap}{G:TG}{L:TL}{T:ao}(ht:cK H0 G L T)(h:dJ G.gs H0 H z xs sz e):Ay (rem H (z::G.gs)) H G L T:=ht.w h.le (bn _ _) h.same
end
structure xX{α:Type}(P:Heap→List Value→α→Prop)(s:Nat)(gs:List Nat)(H:Heap)(l:List α)(v:Value)(H':Heap):Prop where
 kept:Kept gs H H'
 le:Heap.le H H'
 val:aH P s (rem H' gs) v l
theorem Fn.EC{α:Type}{P:Heap→List Value→α→Prop}{s:Nat}{Q:Program}{f:FuncId}{args:Array Value}{H:Heap}{gs:List Nat}{l:List α}(pT:∀g,g∈gs→H g≠none)(h:Fn Q f args (rem H gs) (It P s (rem H gs) l)):Fn Q f args H (xX P s gs H l):=
 (Fn.frame pT h).mono fun v H' hf=>⟨.of hf fun v K hp=>hp.1,hf.le fun v K hp=>hp.1,hf.post.2⟩
structure XG(gs:List Nat)(H:Heap)(n:Nat)(v:Value)(H':Heap):Prop where
 le:Heap.le H H'
 val:∃z xs,v = .slice (some ⟨z,0,none⟩) n n∧dJ gs H H' z xs (n*3) 61∧∀K:Heap,bg (aZ K) 3 xs (aN (fun _=>0) n)
theorem XH(n:Nat):aN (fun _=>0) n=List.replicate n 0:=by
 apply List.ext_getElem?
 intro i
 by_cases h:i<n
 ·rw[eF h,List.getElem?_replicate,if_pos h]
 ·rw[List.getElem?_eq_none (by rw[cE];omega),List.getElem?_eq_none (by rw[List.length_replicate];omega)]
theorem Az{H:Heap}{gs:List Nat}(pT:∀g,g∈gs→H g≠none){n:Nat}(hn:(n:Int)≤8796093022208):Fn Tryz.prog 31 #[.int .i64 (n:Int)] H (XG gs H n):=
 (WU hn).mono fun v H' ⟨g,xs,h1,h2,h3,h4⟩=>by
  rw[List.length_replicate]at h2 h3
  refine⟨by rw[h3];exact Heap.a0 _ h1,g,xs,h2,by rw[h3];exact .new pT h1,fun K=>by rw[XH];exact h4 K⟩
def ed(f:Nat→Rat)(k:Nat)(q:Rat)(j:Nat):Rat:=if j=k then q else f j
theorem XI{f:Nat→Rat}{n k:Nat}{q:Rat}:(aN f n).set k q=aN (ed f k q) n:=by
 apply List.ext_getElem?
 intro j
 by_cases hj:j<n
 ·by_cases e:j=k
  ·subst e
   rw[List.getElem?_set_self (by rw[cE];exact hj),eF hj];simp[ed]
  ·rw[List.getElem?_set_ne (fun e'=>e e'.symm),eF hj,eF hj];simp[ed,e]
 ·rw[List.getElem?_eq_none (by rw[List.length_set,cE];omega),List.getElem?_eq_none (by rw[cE];omega)]
theorem nU{K:Heap}{xs vs:List Value}{f:Nat→Rat}{n k:Nat}{q:Rat}(h:bg (aZ K) 3 xs (aN f n))(hk:k<n)(hv:aZ K vs q):bg (aZ K) 3 (aC xs (k*3) vs) (aN (ed f k q) n):=by
 rw[←XI];exact h.set (by rw[cE];exact hk) hv hv.len
theorem lr{xs vs:List Value}{s e k sz:Nat}:({(⟨xs,s,e,true⟩:aG)with xs:=aC xs (0+k*sz) vs}:aG)=⟨aC xs (k*sz) vs,s,e,true⟩:=by rw[Nat.zero_add]
end Go.ar
