/- Part 5 of the proof: Num3, Bd, TDat, Tab1, TDat2, Tab2, Tab3, TDat3. -/
import Derived.Test.YtgjimcieaecdkaaGreatA04
set_option linter.unusedVariables false
namespace Go.au
open Go.Proofs Num Lp
def gq{α:Type}(P:Heap→List Value→α→Prop)(H:Heap)(vs:List Value):Option α→Prop
 | some a=>P H vs a
 | none=>True
theorem gq.up{α:Type}{P:Heap→List Value→α→Prop}(up:Up P):Up (gq P):=fun H H' vs a hl h=>by
 cases a with
 | none=>trivial
 | some a=>exact up H H' vs a hl h
def fill{α:Type}(l:List α)(k:Nat):List (Option α):=(l.take k).map some++List.replicate (l.length-k) none
section
variable {α:Type} {l:List α} {k:Nat}
theorem wb(h:k≤l.length):(fill l k).length=l.length:=by simp[fill];omega
theorem TV:fill l 0=List.replicate l.length none:=by simp[fill]
theorem wc{a:α}(h:l[k]? = some a):(fill l k).set k (some a)=fill l (k+1):=by
 have hk:=(List.getElem?_eq_some_iff.1 h).1
 apply List.ext_getElem?
 intro i
 by_cases e:i=k
 ·subst e
  rw[List.getElem?_set_self (by rw[wb (by omega)];omega)]
  unfold fill
  rw[List.getElem?_append_left (by simp;omega),List.getElem?_map,List.getElem?_take,if_pos (by omega),h];rfl
 ·rw[List.getElem?_set_ne (fun e'=>e e'.symm)]
  unfold fill
  by_cases h1:i<k
  ·rw[List.getElem?_append_left (by simp;omega),List.getElem?_append_left (by simp;omega),List.getElem?_map,List.getElem?_map,List.getElem?_take,List.getElem?_take,if_pos h1,if_pos (by omega)]
  ·rw[List.getElem?_append_right (by simp;omega),List.getElem?_append_right (by simp;omega),List.getElem?_replicate,List.getElem?_replicate]
   simp only[List.length_map,List.length_take]
   by_cases h2:i<l.length
   ·rw[if_pos (by omega),if_pos (by omega)]
   ·rw[if_neg (by omega),if_neg (by omega)]
theorem TW:fill l l.length=l.map some:=by simp[fill]
theorem CG{P:Heap→List Value→α→Prop}{H:Heap}{sz:Nat}{xs:List Value}(h:bF (gq P H) sz xs (fill l l.length)):bF (P H) sz xs l:=by
 rw[TW]at h
 refine⟨by simpa using h.len,fun i a ha=> ?_⟩
 exact h.at_ i (some a) (by rw[List.getElem?_map,ha];rfl)
end
theorem yA{α:Type}{P:Heap→List Value→α→Prop}{H:Heap}{zs:List Value}{sz:Nat}(hz:zs.length=sz)(l:List α):bF (gq P H) sz (dg zs (l.length*sz)) (fill l 0):=by
 rw[TV]
 exact Td (P:=gq P H) (a:=none) hz trivial _
theorem dT:Up aT:=aT.up
def ca(N:Nat)(H:Heap)(vs:List Value)(q:Rat):Prop:=cj H (.agg vs.toArray) q N
theorem fu(N:Nat):Up (ca N):=fun _ _ _ _ hl h=>cj.le h hl
def fe(H:Heap)(vs:List Value)(q:Rat):Prop:=du H (.agg vs.toArray) q
theorem qi:Up fe:=fun _ _ _ _ hl h=>du.le h hl
theorem tV{vs:List Value}{a b c:Value}(h:Value.agg vs.toArray = .agg #[a,b,c]):vs = [a,b,c]:=by
 simp only[Value.agg.injEq]at h
 have:=congrArg Array.toList h
 simpa using this
theorem ca.cells{N:Nat}{H:Heap}{vs:List Value}{q:Rat}(h:ca N H vs q):∃f A m c A' m' c',vs = [.bool f,.slice A m c,.slice A' m' c']:=by
 obtain⟨f,u,w,l1,l2,h1,⟨A,c,rfl,_,_⟩,⟨A',c',rfl,_,_⟩,_⟩:=h
 exact⟨f,A,_,c,A',_,c',tV h1⟩
theorem fe.rat{H:Heap}{vs:List Value}{q:Rat}{N:Nat}(h:fe H vs q)(hs:aC q≤N):ca N H vs q:=cj.mono (du.raw h) hs
theorem aT.cells{H:Heap}{vs:List Value}{q:Rat}(h:aT H vs q):∃n d b,vs = [.int .i64 n,.int .i64 d,.pointer b]:=by
 obtain⟨n,d,b,h,_⟩:=h;exact⟨n,d,b,h⟩
theorem TX(H:Heap)(g:Nat)(xs vs:List Value)(s e k sz:Nat):ins (ins H g ⟨xs,s,e,true⟩) g {(⟨xs,s,e,true⟩:aG)with xs:=aA xs (0+k*sz) vs}=ins H g ⟨aA xs (k*sz) vs,s,e,true⟩:=by
 rw[qP,Nat.zero_add]
theorem nY{H:Heap}{g:Nat}{xs:List Value}{s e:Nat}{b:Bool}(h:H g=some ⟨xs,s,e,b⟩):Rd H (some ⟨g,0,none⟩) xs:=fun i v hv=>⟨_,rfl,by simp[cell,iJ,h,hv]⟩
theorem tW{q:Rat}(h:eE q=0):q=0:=by
 unfold eE at h
 split at h
 ·omega
 ·split at h
  ·assumption
  ·omega
theorem Lr:aC 0=1:=by
 unfold aC
 show max (af 0).length (af 1).length=1
 rw[nJ,oU];rfl
theorem TY{f g:Nat→Rat}{s n:Nat}(hf:∀k,k<n→aC (f k)≤s∧aC (g k)≤s):∀k,k≤n→aC (aN k (fun j=>f j*g j))≤k*(2*s+1)+1:=by
 intro k
 induction k with
 | zero=>intro _;rw[vW,Lr];omega
 | succ k ih=>
  intro hk
  have h1:=ih (by omega)
  have h2:=nN (f k) (g k)
  have h3:=FO (aN k (fun j=>f j*g j)) (f k*g k)
  have h4:=hf k (by omega)
  rw[eG,Nat.add_mul]
  omega
theorem Ls{l:List Rat}{s:Nat}(h:∀q,q∈l→aC q≤s){k:Nat}(hk:k<l.length):aC (fn l k)≤s:=by
 rw[jl (List.getElem?_eq_getElem hk)];exact h _ (List.getElem_mem hk)
def TZ(H:Heap)(l:List Rat)(v:Value)(H':Heap):Prop:=∃g xs,H g=none∧v = .slice (some ⟨g,0,none⟩) l.length l.length∧H'=ins H g ⟨xs,l.length*3,61,true⟩∧∀K:Heap,bF (aT K) 3 xs l
def CH{α:Type}(P:Heap→List Value→α→Prop)(sz:Nat)(H:Heap)(l:List α)(v:Value)(H':Heap):Prop:=Heap.le H H'∧aM P sz H' v l
theorem T1{H:Heap}{n:Nat}(hn:(n:Int)≤8796093022208):
 Fn Tryz.prog 31 #[.int .i64 (n:Int)] H (TZ H (List.replicate n 0)):=by
 refine aU (args:=[_]) Tryz.func31 rfl rfl Tryz.ntmps31 rfl rfl fun w0=> ?_;refine ah [0] rfl ?_;refine ae (aa 1 rfl (ab [0] ?_));refine ae (aa 1 rfl (ja Tryz.underlying56 cN rfl rfl rfl (by omega) (by omega) (by omega) (by omega) ?_));intro g hg;rw[show ((n:Int)).toNat=n from by omega]
 have hz:∀K:Heap,bF (gq aT K) 3 (dg [.int .i64 0,.int .i64 0,.pointer none] (n*3)) (fill (List.replicate n (0:Rat)) 0):=fun K=>by have:=yA (P:=aT) (H:=K) (zs:=[.int .i64 0,.int .i64 0,.pointer none]) rfl (List.replicate n (0:Rat));rwa [List.length_replicate]at this
 refine aa 1 rfl (ab [3] ?_);refine ao (ae (aa 3 rfl (ab [3,8,9] ?_)));refine aD (jb (fun(k:Nat)(xs:List Value)=>n-k) (fun(k:Nat)(xs:List Value)=>put (put (put (emp) 3 (.val (.slice (some ⟨g,0,none⟩) n n))) 8 (.val (.int .i64 (n:Int)))) 9 (.val (.int .i64 (k:Int)))) (fun(k:Nat)(xs:List Value) H'=>H'=ins H g ⟨xs,n*3,61,true⟩∧k≤n∧∀K:Heap,bF (gq aT K) 3 xs (fill (List.replicate n (0:Rat)) k)) 0 _ (⟨rfl,Nat.zero_le _,hz⟩) av ?_);rintro k xs H1 ⟨rfl,hk,he⟩;have jE:=wb (l:=List.replicate n (0:Rat)) (k:=k) (by simpa using hk);have ck:=(he H).len;rw[jE,List.length_replicate]at ck;refine ae (aa 1 rfl (ab [3,8,9,10] ?_));refine ao (az rfl (fun hb=> ?_) (fun hb=> ?_))
 ·
  have hb:k<n:=by simpa using hb
  refine aw (ah [3,8,9] rfl ?_);refine ao (aD (ae (aa 2 rfl (ab [3,4,8,9] ?_))));refine aB rfl (aa 2 rfl (aq rfl rfl (ln) ?_));rintro v1 H1 ⟨e1,rfl⟩;rw[e1];obtain⟨ti,aj,ak⟩:=a9;refine dE (.inl rfl) ag rfl rfl rfl (by omega) (by omega) (bn _ _ _) rfl (by show 0+n*3≤xs.length;omega) aj ak (fun _=>rfl) rfl rfl rfl fun _=> ?_;refine ay (ah [3,8,9] rfl ?_);refine aB rfl (aJ rfl rfl ⟨by omega,by omega⟩ (aa 1 rfl (ay ?_)));exact⟨k+1,_,by omega,av,TX H g xs _ _ _ k 3,by omega,fun K=>by rw[←wc (a:=(0:Rat)) (by rw[List.getElem?_replicate,if_pos hb])];exact(he K).set (by rw[jE,List.length_replicate];exact hb) (ll K (n:=0) (by decide) (by decide)) rfl⟩
 ·
  have hb:n≤k:=by simpa using hb
  obtain rfl:k=n:=by omega
  refine bA (ah [3] rfl ?_);refine ae (aa 2 rfl (ab [2] ?_));refine ar ⟨.inr rfl,_,.tmp rfl (.nil),?_⟩;refine⟨g,xs,hg,by rw[List.length_replicate];rfl,by rw[List.length_replicate],fun K=>CG (l:=List.replicate k (0:Rat)) (by rw[List.length_replicate];exact he K)⟩
theorem o4{H:Heap}{v:Value}{l:List Rat}{N:Nat}(hv:aM (ca N) 3 H v l)(hN:(N:Int)≤1099511627776)(hl:(l.length:Int)≤1099511627776):
 Fn Tryz.prog 32 #[v] H (CH aT 3 H l):=by
 obtain⟨A,c,ys,rfl,hc,hr,jm⟩:=hv;refine aU (args:=[_]) Tryz.func32 rfl rfl Tryz.ntmps32 rfl rfl fun w0=> ?_;refine ah [0] rfl ?_;refine ae (aa 1 rfl (ab [0] ?_));refine ae (aa 2 rfl (ja Tryz.underlying56 cN rfl rfl rfl (by omega) (by omega) (by omega) (by omega) ?_));intro g hg;rw[show ((l.length:Int)).toNat=l.length from by omega];have hz:bF (gq aT (rem (ins H g ⟨dg [.int .i64 0,.int .i64 0,.pointer none] (l.length*3),l.length*3,61,true⟩) [g])) 3 (dg [.int .i64 0,.int .i64 0,.pointer none] (l.length*3)) (fill l 0):=yA (sz:=3) (by rfl) l;refine aa 1 rfl (ab [0,3] ?_);refine ao (ae (aa 3 rfl (ab [3,9,10,11] ?_)));refine aD (jb (fun(k:Nat)(xs:List Value)=>l.length-k) (fun(k:Nat)(xs:List Value)=>put (put (put (put (emp) 3 (.val (.slice (some ⟨g,0,none⟩) l.length l.length))) 9 (.val (.slice A l.length c))) 10 (.val (.int .i64 (l.length:Int)))) 11 (.val (.int .i64 (k:Int)))) (fun(k:Nat)(xs:List Value) H'=>Heap.le H (rem H' [g])∧H' g=some ⟨xs,l.length*3,61,true⟩∧k≤l.length∧bF (gq aT (rem H' [g])) 3 xs (fill l k)) 0 _ (⟨by rw[tG _ hg,ry];exact .refl _,bn _ _ _,Nat.zero_le _,hz⟩) av ?_);rintro k xs H1 ⟨hle,tX,hk,he⟩;have jE:=wb (l:=l) (k:=k) hk;have ck:=he.len
 rw[jE]at ck;have kL:=hle.trans (bE H1 [g]);refine ae (aa 1 rfl (ab [3,9,10,11,12] ?_));refine ao (az rfl (fun hb=> ?_) (fun hb=> ?_))
 ·
  have hb:k<l.length:=by simpa using hb
  obtain⟨q,dI⟩:∃q,l[k]? = some q:=⟨_,List.getElem?_eq_getElem hb⟩;obtain⟨vs,ig,nZ,yB⟩:=jm.get dI;obtain⟨f,A1,m1,c1,A2,m2,c2,rfl⟩:=nZ.cells;have Ge:cj (rem H1 [g]) _ q N:=cj.le nZ hle;refine aw (ah [3,9,10,11] rfl ?_);refine ao (aD (ae (aa 1 rfl (cQ (vs:=[.bool f,.slice A1 m1 c1,.slice A2 m2 c2]) ag rfl rfl rfl rfl (hr.le kL) rfl (by decide) yB (by omega) (by omega) fun _=>(bG eD rfl (vr 1 ?_))))));obtain⟨ti,aj,ak⟩:=bP;refine aO (.inl ⟨rfl,rfl⟩) rfl rfl rfl aj ak rfl rfl rfl (ab [3,4,5,9,10,11] ?_);refine aB rfl (aa 3 rfl (aq rfl rfl (Fn.frame (gs:=[g]) (fun q hq=>by simp only[List.mem_singleton]at hq;subst hq;rw[tX];simp) (p9 Ge hN)) ?_));rintro v2 H2 ⟨⟨cG,yl,rfl,bB⟩,fN⟩;obtain⟨n2,d2,b2,rfl,_⟩:=id bB;have dC:=(fN g (List.mem_singleton.2 rfl)).trans tX;obtain⟨ti,aj,ak⟩:=a9;refine dE (.inl rfl) ag rfl rfl rfl (by omega) (by omega) (dC) rfl (by show 0+l.length*3≤xs.length;omega) aj ak (fun _=>rfl) rfl rfl rfl fun _=> ?_;refine ay (ah [3,9,10,11] rfl ?_);refine aB rfl (aJ rfl rfl ⟨by omega,by omega⟩ (aa 1 rfl (ay ?_)));refine⟨k+1,aA xs (k*3) [.int .i64 n2,.int .i64 d2,.pointer b2],by omega,av,?_,?_,by omega,?_⟩
  ·rw[bY _ (List.mem_singleton.2 rfl)];exact hle.trans cG
  ·rw[bn,Nat.zero_add];rfl
  ·
   rw[bY _ (List.mem_singleton.2 rfl),←wc dI];exact(he.mono fun vs a=>gq.up dT _ _ vs a cG).set (by rw[jE];exact hb) bB rfl
 ·
  have hb:l.length≤k:=by simpa using hb
  obtain rfl:k=l.length:=by omega
  refine bA (ah [3] rfl ?_);refine ae (aa 2 rfl (ab [2] ?_));refine ar ⟨.inr rfl,_,.tmp rfl (.nil),?_⟩;exact⟨hle.trans (bE _ _),some ⟨g,0,none⟩,l.length,xs,rfl,Nat.le_refl _,nY tX,(CG he).mono fun vs a=>dT _ _ vs a (bE _ _)⟩
theorem Lu{H:Heap}{v:Value}{l:List Rat}(hv:aM aT 3 H v l)(hN:∀q,q∈l→(aC q:Int)≤1099511627776)(hl:(l.length:Int)≤1099511627776):
 Fn Tryz.prog 65 #[v] H (CH fe 3 H l):=by
 obtain⟨A,c,ys,rfl,hc,hr,jm⟩:=hv;refine aU (args:=[_]) Tryz.func65 rfl rfl Tryz.ntmps65 rfl rfl fun w0=> ?_;refine ah [0] rfl ?_;refine ae (aa 1 rfl (ab [0] ?_));refine ae (aa 2 rfl (ja Tryz.underlying26 eD rfl rfl rfl (by omega) (by omega) (by omega) (by omega) ?_));intro g hg;rw[show ((l.length:Int)).toNat=l.length from by omega];have hz:bF (gq fe (rem (ins H g ⟨dg [.bool false,.slice none 0 0,.slice none 0 0] (l.length*3),l.length*3,29,true⟩) [g])) 3 (dg [.bool false,.slice none 0 0,.slice none 0 0] (l.length*3)) (fill l 0):=yA (sz:=3) (by rfl) l;refine aa 1 rfl (ab [0,3] ?_);refine ao (ae (aa 3 rfl (ab [3,9,10,11] ?_)));refine aD (jb (fun(k:Nat)(xs:List Value)=>l.length-k) (fun(k:Nat)(xs:List Value)=>put (put (put (put (emp) 3 (.val (.slice (some ⟨g,0,none⟩) l.length l.length))) 9 (.val (.slice A l.length c))) 10 (.val (.int .i64 (l.length:Int)))) 11 (.val (.int .i64 (k:Int)))) (fun(k:Nat)(xs:List Value) H'=>Heap.le H (rem H' [g])∧H' g=some ⟨xs,l.length*3,29,true⟩∧k≤l.length∧bF (gq fe (rem H' [g])) 3 xs (fill l k)) 0 _ (⟨by rw[tG _ hg,ry];exact .refl _,bn _ _ _,Nat.zero_le _,hz⟩) av ?_);rintro k xs H1 ⟨hle,tX,hk,he⟩;have jE:=wb (l:=l) (k:=k) hk
 have ck:=he.len;rw[jE]at ck;have kL:=hle.trans (bE H1 [g]);refine ae (aa 1 rfl (ab [3,9,10,11,12] ?_));refine ao (az rfl (fun hb=> ?_) (fun hb=> ?_))
 ·
  have hb:k<l.length:=by simpa using hb
  obtain⟨q,dI⟩:∃q,l[k]? = some q:=⟨_,List.getElem?_eq_getElem hb⟩;obtain⟨vs,ig,nZ,yB⟩:=jm.get dI;obtain⟨n1,d1,b1,rfl⟩:=nZ.cells;have Ge:=nZ.le hle;refine aw (ah [3,9,10,11] rfl ?_);refine ao (aD (ae (aa 1 rfl (cQ (vs:=[.int .i64 n1,.int .i64 d1,.pointer b1]) ag rfl rfl rfl rfl (hr.le kL) rfl (by decide) yB (by omega) (by omega) fun _=>(bG cN rfl (vr 1 ?_))))));obtain⟨ti,aj,ak⟩:=a9;refine aO (.inl ⟨rfl,rfl⟩) rfl rfl rfl aj ak rfl rfl rfl (ab [3,4,5,9,10,11] ?_);refine aB rfl (aa 3 rfl (aq rfl rfl (Fn.frame (gs:=[g]) (fun q hq=>by simp only[List.mem_singleton]at hq;subst hq;rw[tX];simp) (KP Ge (hN q (List.mem_of_getElem? dI)))) ?_));rintro v2 H2 ⟨⟨cG,bB⟩,fN⟩;obtain⟨u2,w2,rfl,dF,hE⟩:=id bB;obtain⟨A2,c2,rfl,lX,jA⟩:=id dF;obtain⟨A3,c3,rfl,oV,lg⟩:=id hE;have dC:=(fN g (List.mem_singleton.2 rfl)).trans tX;obtain⟨ti,aj,ak⟩:=bP;refine dE (.inl rfl) ag rfl rfl rfl (by omega) (by omega) (dC) rfl (by show 0+l.length*3≤xs.length;omega) aj ak (fun _=>rfl) rfl rfl rfl fun _=> ?_;refine ay (ah [3,9,10,11] rfl ?_);refine aB rfl (aJ rfl rfl ⟨by omega,by omega⟩ (aa 1 rfl (ay ?_)))
  refine⟨k+1,aA xs (k*3) [.bool (decide (q.num<0)),.slice A2 (af q.num.natAbs).length c2,.slice A3 (af q.den).length c3],by omega,av,?_,?_,by omega,?_⟩
  ·rw[bY _ (List.mem_singleton.2 rfl)];exact hle.trans cG
  ·rw[bn,Nat.zero_add];rfl
  ·
   rw[bY _ (List.mem_singleton.2 rfl),←wc dI];exact(he.mono fun vs a=>gq.up qi _ _ vs a cG).set (by rw[jE];exact hb) (show fe _ _ q from bB) rfl
 ·
  have hb:l.length≤k:=by simpa using hb
  obtain rfl:k=l.length:=by omega
  refine bA (ah [3] rfl ?_);refine ae (aa 2 rfl (ab [2] ?_));refine ar ⟨.inr rfl,_,.tmp rfl (.nil),?_⟩;exact⟨hle.trans (bE _ _),some ⟨g,0,none⟩,l.length,xs,rfl,Nat.le_refl _,nY tX,(CG he).mono fun vs a=>qi _ _ vs a (bE _ _)⟩
theorem CI{H:Heap}{u v:Value}{l1 l2:List Rat}{s:Nat}(hu:aM aT 3 H u l1)(hv:aM aT 3 H v l2)(hl:l1.length≤l2.length)(h1:∀q,q∈l1→aC q≤s)(h2:∀q,q∈l2→aC q≤s)(hs:((l1.length:Int)+2)*(2*s+2)≤1099511627776):
 Fn Tryz.prog 55 #[u,v] H (mV H (bL l1.length (fn l1) (fn l2))):=by
 obtain⟨A,c,ys,rfl,hc,hr,jm⟩:=hu
 obtain⟨A',c',ys',rfl,gA,cF,T2⟩:=hv
 have FX:=TY (f:=fn l1) (g:=fn l2) (s:=s) (n:=l1.length) (fun k hk=>⟨Ls h1 hk,Ls h2 (by omega)⟩)
 have ld:∀k,k≤l1.length→((k*(2*s+1)+1:Nat):Int)≤1099511627776:=fun k hk=>by
  have h3:k*(2*s+1)+1≤(l1.length+2)*(2*s+2):=by
   have h4:k*(2*s+1)≤l1.length*(2*s+2):=Nat.mul_le_mul hk (by omega)
   rw[Nat.add_mul];omega
  have h5:(((l1.length+2)*(2*s+2):Nat):Int)=((l1.length:Int)+2)*(2*s+2):=by push_cast;rfl
  omega
 have aam:(l1.length:Int)≤1099511627776:=by
  have h3:l1.length+2≤(l1.length+2)*(2*s+2):=Nat.le_mul_of_pos_right _ (by omega)
  have h5:(((l1.length+2)*(2*s+2):Nat):Int)=((l1.length:Int)+2)*(2*s+2):=by push_cast;rfl
  omega
 have fN:((2*(2*s+2):Nat):Int)≤1099511627776:=by
  have h3:2*(2*s+2)≤(l1.length+2)*(2*s+2):=Nat.mul_le_mul_right _ (by omega)
  have h5:(((l1.length+2)*(2*s+2):Nat):Int)=((l1.length:Int)+2)*(2*s+2):=by push_cast;rfl
  omega
 refine aU (args:=[_,_]) Tryz.func55 rfl rfl Tryz.ntmps55 rfl rfl fun w0=> ?_;refine ah [0,1] rfl ?_;refine ae (bG cN rfl (ab [0,1,4] ?_));refine ae (aq rfl rfl (ln) ?_);rintro v1 H1 ⟨e1,rfl⟩;rw[e1];refine bG cN rfl ?_;obtain⟨ti,aj,ak⟩:=a9;refine aO (.inl ⟨rfl,rfl⟩) rfl rfl rfl aj ak rfl rfl rfl (ab [0,1,4,5] ?_);refine ao (ae (aa 3 rfl (ab [1,4,5,9,10,11] ?_)));refine aD (oI (fun(k:Nat)(n5:Int)(d5:Int)(b5:Option Addr)=>l1.length-k) (fun(k:Nat)(n5:Int)(d5:Int)(b5:Option Addr)=>put (put (put (put (put (put (emp) 1 (.val (.slice A' l2.length c'))) 4 (.box [.int .i64 0,.int .i64 0,.pointer none])) 5 (.box [.int .i64 n5,.int .i64 d5,.pointer b5])) 9 (.val (.slice A l1.length c))) 10 (.val (.int .i64 (l1.length:Int)))) 11 (.val (.int .i64 (k:Int)))) (fun(k:Nat)(n5:Int)(d5:Int)(b5:Option Addr) H'=>Heap.le H H'∧k≤l1.length∧aT H' [.int .i64 n5,.int .i64 d5,.pointer b5] (aN k (fun j=>fn l1 j*fn l2 j))) 0 0 1 none (⟨.refl _,Nat.zero_le _,ll H (n:=0) (by decide) (by decide)⟩) av ?_);rintro k n5 d5 b5 H1 ⟨hle,hk,hn⟩;refine ae (aa 1 rfl (ab [1,4,5,9,10,11,12] ?_));refine ao (az rfl (fun hb=> ?_) (fun hb=> ?_))
 ·
  have hb:k<l1.length:=by simpa using hb
  obtain⟨q,dI⟩:∃q,l1[k]? = some q:=⟨_,List.getElem?_eq_getElem hb⟩;obtain⟨vs,ig,nZ,yB⟩:=jm.get dI;obtain⟨n1,d1,b1,rfl⟩:=nZ.cells;obtain⟨q2,yC⟩:∃q,l2[k]? = some q:=⟨_,List.getElem?_eq_getElem (by omega)⟩;obtain⟨yl,aan,CJ,Gf⟩:=T2.get yC;obtain⟨n2,d2,b2,rfl⟩:=CJ.cells;have jX:=h1 q (List.mem_of_getElem? dI);have g8:=h2 q2 (List.mem_of_getElem? yC);have CK:=FX k hk;have aao:=ld k hk;refine aw (ah [1,4,5,9,10,11] rfl ?_);refine ao (aD (ae (aa 1 rfl (cQ (vs:=[.int .i64 n1,.int .i64 d1,.pointer b1]) ag rfl rfl rfl rfl (hr.le hle) rfl (by decide) yB (by omega) (by omega) fun _=>(bG cN rfl (vr 1 ?_))))));obtain⟨ti,aj,ak⟩:=a9;refine aO (.inl ⟨rfl,rfl⟩) rfl rfl rfl aj ak rfl rfl rfl (ab [1,4,5,6,7,9,10,11] ?_)
  by_cases jV:eE q=0
  ·
   skip
   refine ae (aa 1 rfl (aq rfl rfl (fq (nZ.le hle) (by omega)) ?_));rintro v2 H2 ⟨aW,rfl⟩;refine ax false rfl rfl (la jV) (aa 8 rfl (ab [1,4,5,6,7,9,10,11,26] ?_));have eY:=hle.trans aW
   have eT:aT H2 [.int .i64 n5,.int .i64 d5,.pointer b5] (aN k (fun j=>fn l1 j*fn l2 j)+0):=by rw[Rat.add_zero];exact hn.le aW
   have hz:q*q2=0:=by rw[tW jV,Rat.zero_mul]
   refine cP rfl (aw (ah [1,4,5,9,10,11] rfl ?_));refine aB rfl (aJ rfl rfl ⟨by omega,by omega⟩ (aa 1 rfl (ay ?_)));exact⟨k+1,n5,d5,b5,by omega,av,eY,by omega,by rw[eG,jl dI,jl yC,hz];exact eT⟩
  ·
   by_cases bJ:eE q2=0
   skip
   ·
    skip
    refine ae (aa 1 rfl (aq rfl rfl (fq (nZ.le hle) (by omega)) ?_));rintro v2 H2 ⟨aW,rfl⟩;refine ax true rfl rfl (kq jV) (aa 3 rfl (cQ (vs:=[.int .i64 n2,.int .i64 d2,.pointer b2]) ag rfl rfl rfl rfl (cF.le (hle.trans aW)) rfl (by decide) Gf (by omega) (by omega) fun _=>(aq rfl rfl (fq (CJ.le (hle.trans aW)) (by omega)) ?_)));rintro v3 H3 ⟨dH,rfl⟩;refine ax false rfl rfl (la bJ) (aa 1 rfl (ab [1,4,5,6,7,9,10,11,26] ?_));have eY:=(hle.trans aW).trans dH
    have eT:aT H3 [.int .i64 n5,.int .i64 d5,.pointer b5] (aN k (fun j=>fn l1 j*fn l2 j)+0):=by rw[Rat.add_zero];exact hn.le (aW.trans dH)
    have hz:q*q2=0:=by rw[tW bJ,Rat.mul_zero]
    refine cP rfl (aw (ah [1,4,5,9,10,11] rfl ?_));refine aB rfl (aJ rfl rfl ⟨by omega,by omega⟩ (aa 1 rfl (ay ?_)));exact⟨k+1,n5,d5,b5,by omega,av,eY,by omega,by rw[eG,jl dI,jl yC,hz];exact eT⟩
   skip
   refine ae (aa 1 rfl (aq rfl rfl (fq (nZ.le hle) (by omega)) ?_));rintro v2 H2 ⟨aW,rfl⟩;refine ax true rfl rfl (kq jV) (aa 3 rfl (cQ (vs:=[.int .i64 n2,.int .i64 d2,.pointer b2]) ag rfl rfl rfl rfl (cF.le (hle.trans aW)) rfl (by decide) Gf (by omega) (by omega) fun _=>(aq rfl rfl (fq (CJ.le (hle.trans aW)) (by omega)) ?_)));rintro v3 H3 ⟨dH,rfl⟩;refine ax true rfl rfl (kq bJ) (aa 1 rfl (ab [1,4,5,6,7,9,10,11,26] ?_));have eY:=(hle.trans aW).trans dH;have eT:=hn.le (aW.trans dH);refine cI rfl (fk .bN [0,1,2,3,4,5,6,7,8] follows (by kernel_rfl) ?_);refine aa 4 rfl (cQ (vs:=[.int .i64 n2,.int .i64 d2,.pointer b2]) ag rfl rfl rfl rfl (cF.le eY) rfl (by decide) Gf (by omega) (by omega) fun _=>(aI rfl rfl (qh (N:=s) (nZ.le eY) (CJ.le eY) jX g8 (by omega)) (fun _ _ h=>by first | exact h.le | exact h.1) ?_));rintro w3 G3 ⟨j1,T3,rfl,eV⟩;obtain⟨n3,d3,b3,rfl,_⟩:=id eV;have hzm:=nN q q2;obtain⟨M,Gg,T4,T5⟩:∃M,aC (aN k (fun j=>fn l1 j*fn l2 j))≤M∧aC (q*q2)≤M∧(M:Int)≤1099511627776:=⟨max (k*(2*s+1)+1) (2*(2*s+2)),by omega,by omega,by omega⟩;refine aI rfl rfl (CF (N:=M) (eT.le j1) eV Gg T4 T5) (fun _ _ h=>by first | exact h.le | exact h.1) ?_
   rintro w4 G4 ⟨hO,tU,rfl,cE⟩;obtain⟨n4,d4,b4,rfl,_⟩:=id cE;obtain⟨ti,aj,ak⟩:=a9;refine aO (.inl ⟨rfl,rfl⟩) rfl rfl rfl aj ak rfl rfl rfl (ay (ah [1,4,5,9,10,11] rfl ?_));refine aB rfl (aJ rfl rfl ⟨by omega,by omega⟩ (aa 1 rfl (ay ?_)));exact⟨k+1,n4,d4,b4,by omega,av,eY.trans (j1.trans hO),by omega,by rw[eG,jl dI,jl yC];exact cE⟩
 ·
  have hb:l1.length≤k:=by simpa using hb
  obtain rfl:k=l1.length:=by omega
  refine bA (ah [4,5] rfl ?_);refine ae (vr 1 ?_);obtain⟨ti,aj,ak⟩:=a9;refine aO (.inl ⟨rfl,rfl⟩) rfl rfl rfl aj ak rfl rfl rfl (ab [4] ?_);obtain⟨bU,aK,aL⟩:=a9;refine ar ⟨.inr rfl,_,.agg rfl Tryz.underlying61 aK aL (.nil),?_⟩;exact⟨hle,_,rfl,hn⟩
end Go.au
namespace Lp
namespace al
def mY(T:al)(j:Nat):Prop:=∃k,k<T.m∧T.B k=j
section
variable {T S:al}
theorem Lv(hT:T.WF)(h:gp T S){i j:Nat}(hi:i<S.m)(hj:j≤T.n):S.A i j=aN T.m (fun k=>S.A i (T.B k)*T.A k j):=by
 have h1:=(h.jY _).2 (rB hT j hj) i hi
 rw[h.n,vX T hT.lt j hj]at h1
 grind
theorem T6(hT:T.WF)(h:gp T S){j:Nat}(hj:j≤T.n):S.c j=T.c j+aN T.m (fun k=>S.c (T.B k)*T.A k j):=by
 have h1:=h.cost _ (rB hT j hj)
 rw[vY hT j hj]at h1
 unfold cost at h1
 rw[h.n,vX T hT.lt j hj]at h1
 grind
theorem exchange(hT:T.WF)(hS:S.WF)(h:gp T S){i0:Nat}(hi:i0<S.m)(hn:¬T.mY (S.B i0)):∃r,r<T.m∧T.A r (S.B i0)≠0∧¬S.mY (T.B r):=by
 false_or_by_contra
 rename_i hc
 have a8:=hS.lt i0 hi
 have h1:=Lv hT h hi (j:=S.B i0) (by rw[h.n]at a8;omega)
 rw[hS.unit i0 i0 hi hi,if_pos rfl,kI]at h1
 ·grind
 ·intro k hk
  by_cases e:T.A k (S.B i0)=0
  ·rw[e];grind
  ·by_cases hb:S.mY (T.B k)
   ·obtain⟨i',eA,e'⟩:=hb
    have a4:i0≠i':=fun e0=>hn ⟨k,hk,by rw[e0];exact e'.symm⟩
    rw[←e',hS.unit i' i0 eA hi,if_neg a4];grind
   ·exact absurd ⟨k,hk,e,hb⟩ hc
open Classical in
noncomputable def oa(T S:al):Nat:=(List.range S.m).countP fun i=>decide (¬T.mY (S.B i))
theorem T7{r s j:Nat}(h:T.mY j)(hj:j≠T.B r):(T.bM r s).mY j:=by
 obtain⟨k,hk,e⟩:=h
 refine⟨k,hk,?_⟩
 show (if k=r then s else T.B k)=j
 rw[if_neg (fun e'=>hj (by rw[←e,e'])),e]
theorem T9{r i0:Nat}(hr:r<T.m)(hi:i0<S.m)(hn:¬T.mY (S.B i0))(hb:¬S.mY (T.B r)):oa (T.bM r (S.B i0)) S<oa T S:=by
 unfold oa
 refine K1 _ _ _ (fun i sN hd=> ?_) ⟨i0,List.mem_range.2 hi,?_,?_⟩
 ·simp only[decide_eq_true_eq]at hd⊢
  exact fun eP=>hd (T7 eP (fun e=>hb ⟨i,List.mem_range.1 sN,e⟩))
 ·simp only[decide_eq_true_eq];exact hn
 ·simp only[decide_eq_false_iff_not,Classical.not_not]
  exact⟨r,hr,by show (if r=r then S.B i0 else T.B r)=_;rw[if_pos rfl]⟩
def dz(D X:Nat)(q:Rat):Prop:=∃z:Int,q*(D:Rat)=(z:Rat)∧z.natAbs≤X
def iN(n j k z:Nat):Nat:=if j=n then k else z
structure Ua(D0 f e D:Nat)(T:al):Prop where
 pos:0<D
 le:D≤2^e
 A:∀i,i<T.m→∀j,j≤T.n→dz (D*iN T.n j D0 1) (2^(e+iN T.n j f 0)) (T.A i j)
 c:∀j,j≤T.n→dz (D*iN T.n j D0 1) (2^(e+iN T.n j f 0)) (T.c j)
def Bd(D0 f e:Nat)(T:al):Prop:=∃D:Nat,Ua D0 f e D T
theorem we{n j k z:Nat}(h:j<n):iN n j k z=z:=if_neg (by omega)
theorem CL{n k z:Nat}:iN n n k z=k:=if_pos rfl
theorem dz.mono{D X Y:Nat}{q:Rat}(h:dz D X q)(hl:X≤Y):dz D Y q:=by
 obtain⟨z,h1,h2⟩:=h
 exact⟨z,h1,Nat.le_trans h2 hl⟩
theorem Bd.mono{D0 f e e':Nat}(h:Bd D0 f e T)(hl:e≤e'):Bd D0 f e' T:=by
 obtain⟨D,h1,h2,h3,h4⟩:=h
 have hp:∀k,2^(e+k)≤2^(e'+k):=fun k=>Nat.pow_le_pow_right (by decide) (by omega)
 exact⟨D,h1,Nat.le_trans h2 (hp 0),fun i hi j hj=>(h3 i hi j hj).mono (hp _),fun j hj=>(h4 j hj).mono (hp _)⟩
theorem natAbs_sub_le(a b:Int):(a-b).natAbs≤a.natAbs+b.natAbs:=by omega
theorem Gh{D K:Nat}{N z1 z2 z3:Int}{a b c d:Rat}{X Y:Nat}(hD:(D:Rat)≠0)(hN:(N:Rat)≠0)(h:d*(D:Rat)=(N:Rat))(h1:a*((D*K:Nat):Rat)=(z1:Rat))(h2:b*(D:Rat)=(z2:Rat))(h3:c*((D*K:Nat):Rat)=(z3:Rat))
  (k1:z1.natAbs≤Y) (k2:z2.natAbs≤X) (k3:z3.natAbs≤Y) (k:N.natAbs≤X):dz (D*N.natAbs*K) (2*(X*Y)) (a-b*(c/d)):=by
 refine⟨N.sign*(z1*N-z2*z3),?_,?_⟩
 ·have e1:((D*N.natAbs*K:Nat):Rat)=(D:Rat)*((N.sign:Rat)*(N:Rat))*(K:Rat):=by
   have ga:(N.natAbs:Int)=N.sign*N:=by
    rcases Int.lt_trichotomy N 0 with h | h | h
    ·rw[Int.sign_eq_neg_one_of_neg h];omega
    ·subst h;rfl
    ·rw[Int.sign_eq_one_of_pos h];omega
   have:((N.natAbs:Int):Rat)=((N.sign*N:Int):Rat):=by rw[ga]
   rw[Rat.natCast_mul,Rat.natCast_mul]
   have h0:((N.natAbs:Nat):Rat)=((N.natAbs:Int):Rat):=rfl
   rw[h0,this,Rat.intCast_mul]
  have hd:d≠0:=fun e=>by rw[e]at h;grind
  rw[Rat.natCast_mul]at h1 h3
  rw[e1,Rat.intCast_mul,Rat.intCast_sub,Rat.intCast_mul,Rat.intCast_mul,←h1,←h2,←h3,←h]
  grind
 ·have hs:N.sign.natAbs≤1:=by
   rw[Int.natAbs_sign];split <;> omega
  rw[Int.natAbs_mul]
  have h4:=natAbs_sub_le (z1*N) (z2*z3)
  rw[Int.natAbs_mul,Int.natAbs_mul]at h4
  have h5:z1.natAbs*N.natAbs≤X*Y:=by rw[Nat.mul_comm];exact Nat.mul_le_mul k k1
  have h6:z2.natAbs*z3.natAbs≤X*Y:=Nat.mul_le_mul k2 k3
  have h7:N.sign.natAbs*(z1*N-z2*z3).natAbs≤1*(z1*N-z2*z3).natAbs:=Nat.mul_le_mul_right _ hs
  omega
theorem Gi(e f:Nat):2*(2^e*2^(e+f))=2^(2*e+1+f):=by
 rw[show 2*e+1+f=(e+(e+f))+1 by omega,Nat.pow_succ,Nat.pow_add 2 e (e+f),Nat.mul_comm]
theorem Bd.bM{D0 f e r s:Nat}(h:Bd D0 f e T)(hr:r<T.m)(hs:s<T.n)(hp:T.A r s≠0):Bd D0 f (2*e+1) (T.bM r s):=by
 obtain⟨D,h1,h2,h3,h4⟩:=h
 have one:∀{q:Rat},dz (D*iN T.n s D0 1) (2^(e+iN T.n s f 0)) q→dz D (2^e) q:=fun h=>by rwa [we hs,we hs,Nat.mul_one]at h
 obtain⟨N,hN,CN⟩:=one (h3 r hr s (by omega))
 have hD:(D:Rat)≠0:=fun e=>by
  have:D=0:=by exact_mod_cast e
  omega
 have CO:(N:Rat)≠0:=by
  rw[←hN]
  intro e0
  rcases Rat.mul_eq_zero.1 e0 with h | h
  ·exact hp h
  ·exact hD h
 have hNz:N≠0:=fun e=>CO (by rw[e];rfl)
 refine⟨D*N.natAbs,Nat.mul_pos h1 (by omega),?_,fun i hi j hj=> ?_,fun j hj=> ?_⟩
 ·have:=Gi e 0
  rw[Nat.add_zero,Nat.add_zero]at this
  rw[←this]
  have:=Nat.mul_le_mul h2 CN
  omega
 ·show dz (D*N.natAbs*iN T.n j D0 1) (2^(2*e+1+iN T.n j f 0)) _
  rw[←Gi]
  obtain⟨z3,k3,l3⟩:=h3 r hr j hj
  show dz _ _ (if i=r then T.A r j/T.A r s else T.A i j-T.A i s*(T.A r j/T.A r s))
  by_cases e':i=r
  ·rw[if_pos e']
   have e3:(-1:Rat)*(D:Rat)=((-(D:Int):Int):Rat):=by
    rw[Rat.intCast_neg]
    have:((D:Int):Rat)=(D:Rat):=rfl
    rw[this];grind
   have:=Gh (z1:=0) (a:=0) (z2:= -(D:Int)) (b:= -1) hD CO hN (by grind) e3 k3 (by omega) (by omega) l3 CN
   have e2:(0:Rat) - -1*(T.A r j/T.A r s)=T.A r j/T.A r s:=by grind
   rwa [e2]at this
  ·rw[if_neg e']
   obtain⟨z1,k1,l1⟩:=h3 i hi j hj
   obtain⟨z2,k2,l2⟩:=one (h3 i hi s (by omega))
   exact Gh hD CO hN k1 k2 k3 l1 l2 l3 CN
 ·show dz (D*N.natAbs*iN T.n j D0 1) (2^(2*e+1+iN T.n j f 0)) _
  rw[←Gi]
  obtain⟨z3,k3,l3⟩:=h3 r hr j hj
  obtain⟨z1,k1,l1⟩:=h4 j hj
  obtain⟨z2,k2,l2⟩:=one (h4 s (by omega))
  exact Gh hD CO hN k1 k2 k3 l1 l2 l3 CN
theorem reach{D0 f:Nat}(hS:S.WF):∀(k e:Nat)(T:al),T.WF→gp T S→Bd D0 f e T→oa T S≤k→∃T':al,T'.WF∧gp T' S∧(∀i,i<S.m→T'.mY (S.B i))∧Bd D0 f (2^k*(e+1)-1) T':=by
 intro k
 induction k with
 | zero=>
  intro e T hT h hb hc
  refine⟨T,hT,h,fun i hi=> ?_,by rw[Nat.pow_zero,Nat.one_mul];exact hb⟩
  false_or_by_contra
  rename_i hn
  have:0<oa T S:=by
   unfold oa
   exact List.countP_pos_iff.2 ⟨i,List.mem_range.2 hi,by simp only[decide_eq_true_eq];exact hn⟩
  omega
 | succ k ih=>
  intro e T hT h hb hc
  by_cases ha:∀i,i<S.m→T.mY (S.B i)
  ·refine⟨T,hT,h,ha,hb.mono ?_⟩
   have:1*(e+1)≤2^(k+1)*(e+1):=Nat.mul_le_mul_right _ Nat.one_le_two_pow
   omega
  ·obtain⟨i0,ha⟩:=Classical.not_forall.1 ha
   obtain⟨hi,hn⟩:=Classical.not_imp.1 ha
   obtain⟨r,hr,hp,oQ⟩:=exchange hT hS h hi hn
   have a8:=hS.lt i0 hi
   rw[h.n]at a8
   obtain⟨T',h1,h2,h3,h4⟩:=ih (2*e+1) (T.bM r (S.B i0)) (vZ hT hr a8 hp) ((gp.bM hr hp).symm.trans h) (hb.bM hr a8 hp) (by have:=T9 hr hi hn oQ;omega)
   refine⟨T',h1,h2,h3,?_⟩
   have e2:2^k*(2*e+1+1)=2^(k+1)*(e+1):=by
    rw[Nat.pow_succ,Nat.mul_assoc]
    congr 1
   rwa [e2]at h4
theorem Ub{D0 f e k:Nat}(hT:T.WF)(hS:S.WF)(h:gp T S)(hb:Bd D0 f e T)(hk:oa T S≤k):Bd D0 f (2^k*(e+1)-1) S:=by
 obtain⟨T',h1,h2,h3,D,hD,hX,hA,hC⟩:=reach hS k e T hT h hb hk
 have eP:∀i,i<S.m→∀k,k<T'.m→∀i',i'<S.m→T'.B k=S.B i→T'.A k (S.B i')=if i'=i then 1 else 0:=by
  intro i hi k hk i' eA e
  obtain⟨k',gV,e'⟩:=h3 i' eA
  rw[←e',h1.unit k' k gV hk]
  by_cases e0:i'=i
  ·rw[if_pos e0,if_pos (h1.inj hk gV (by rw[e,e',e0]))]
  ·rw[if_neg e0,if_neg (fun e1=>e0 (hS.inj eA hi (by rw[←e',←e,e1])))]
 refine⟨D,hD,hX,fun i hi j hj=> ?_,fun j hj=> ?_⟩
 ·obtain⟨k,hk,e⟩:=h3 i hi
  have h4:=Lv hS h2.symm (i:=k) (j:=j) hk hj
  rw[nU (k:=i) hi _ (fun i' eA a4=>by rw[eP i hi k hk i' eA e,if_neg a4];grind),eP i hi k hk i hi e,if_pos rfl]at h4
  have h5:=hA k hk j (by rw[←h2.n];exact hj)
  rw[h4,←h2.n]at h5
  have e6:1*S.A i j=S.A i j:=by grind
  rwa [e6]at h5
 ·have h4:=T6 hS h2.symm (j:=j) hj
  rw[kI]at h4
  ·have h5:=hC j (by rw[←h2.n];exact hj)
   rw[h4,←h2.n]at h5
   have e6:S.c j+0=S.c j:=by grind
   rwa [e6]at h5
  ·intro i hi
   obtain⟨k,hk,e⟩:=h3 i hi
   rw[←e,h1.zero k hk];grind
theorem Uc(T S:al):oa T S≤S.m:=by
 unfold oa
 exact Nat.le_trans List.countP_le_length (by rw[List.length_range];exact Nat.le_refl _)
theorem Lw:∀(n:Nat)(l:List Nat),l.Nodup→(∀x,x∈l→x<n)→l.length≤n
 | 0,l,_,h=>by
  cases l with
  | nil=>exact Nat.le_refl _
  | cons x l=>exact absurd (h x (List.mem_cons_self ..)) (Nat.not_lt_zero _)
 | n+1,l,hd,h=>by
  have h1:=Lw n (l.erase n) (hd.erase n) fun x hx=>by
   have h2:=(hd.mem_erase_iff).1 hx
   have:=h x h2.2
   have:=h2.1
   omega
  have h2:l.length≤(l.erase n).length+1:=by
   rw[List.length_erase];split <;> omega
  omega
theorem Gj{f:Nat→Nat}:∀{l:List Nat},l.Nodup→(∀x,x∈l→∀y,y∈l→f x=f y→x=y)→(l.map f).Nodup
 | [],_,_=>List.nodup_nil
 | x::l,h,hi=>by
  rw[List.nodup_cons]at h
  rw[List.map_cons,List.nodup_cons]
  refine⟨fun hm=> ?_,Gj h.2 fun y hy z hz=>hi y (List.mem_cons_of_mem _ hy) z (List.mem_cons_of_mem _ hz)⟩
  obtain⟨y,hy,e⟩:=List.mem_map.1 hm
  have:=hi y (List.mem_cons_of_mem _ hy) x (List.mem_cons_self ..) e
  exact h.1 (this▸hy)
open Classical in
theorem Ud(hT:T.WF)(hS:S.WF)(h:gp T S):oa T S+T.m≤T.n:=by
 unfold oa
 rw[List.countP_eq_length_filter]
 generalize hl:(List.range S.m).filter (fun i=>decide (¬T.mY (S.B i)))=l
 have tY:∀i,i∈l→i<S.m∧¬T.mY (S.B i):=fun i hi=>by
  rw[←hl,List.mem_filter]at hi
  exact⟨List.mem_range.1 hi.1,of_decide_eq_true hi.2⟩
 have Gk:l.Nodup:=by rw[←hl];exact List.Pairwise.filter _ List.nodup_range
 have h1:=Lw T.n (l.map S.B++(List.range T.m).map T.B) ?_ ?_
 ·rwa [List.length_append,List.length_map,List.length_map,List.length_range]at h1
 ·rw[List.nodup_append]
  refine⟨Gj Gk fun x hx y hy e=>hS.inj (tY x hx).1 (tY y hy).1 e,Gj List.nodup_range fun x hx y hy e=>hT.inj (List.mem_range.1 hx) (List.mem_range.1 hy) e,fun a ha b hb e=> ?_⟩
  obtain⟨i,hi,rfl⟩:=List.mem_map.1 ha
  obtain⟨k,hk,rfl⟩:=List.mem_map.1 hb
  exact(tY i hi).2 ⟨k,List.mem_range.1 hk,e.symm⟩
 ·intro x hx
  rcases List.mem_append.1 hx with hx | hx
  ·obtain⟨i,hi,rfl⟩:=List.mem_map.1 hx
   have:=hS.lt i (tY i hi).1
   rw[←h.n];exact this
  ·obtain⟨i,hi,rfl⟩:=List.mem_map.1 hx
   exact hT.lt i (List.mem_range.1 hi)
theorem Ue{D X:Nat}{q:Rat}(hD:0<D)(h:dz D X q):q.num.natAbs≤X∧q.den≤D:=by
 obtain⟨z,h1,h2⟩:=h
 have hD':(D:Rat)≠0:=fun e=>by
  have:D=0:=by exact_mod_cast e
  omega
 have e:mkRat z D=q:=by
  rw[Rat.mkRat_eq_div]
  grind
 obtain⟨k,hk,h3,h4⟩:=Rat.mkRat_num_den (n:=z) (d:=D) (by omega) (n':=q.num) (d':=q.den) (z':=q.den_nz) (c:=q.reduced) e
 refine⟨?_,?_⟩
 ·rw[h3,Int.natAbs_mul,Int.natAbs_natCast]at h2
  exact Nat.le_trans (Nat.le_mul_of_pos_right _ (by omega)) h2
 ·rw[h4]
  exact Nat.le_mul_of_pos_right _ (by omega)
def wt(q:Rat):Nat:=q.num.natAbs.log2+q.den.log2+2
theorem Uf(q:Rat):q.num.natAbs≤2^wt q:=by
 have h1:=Nat.lt_log2_self (n:=q.num.natAbs)
 have h2:=Nat.pow_le_pow_right (n:=2) (by decide) (show q.num.natAbs.log2+1≤wt q by unfold wt;omega)
 omega
theorem Ug(q:Rat):q.den≤2^wt q:=by
 have h1:=Nat.lt_log2_self (n:=q.den)
 have h2:=Nat.pow_le_pow_right (n:=2) (by decide) (show q.den.log2+1≤wt q by unfold wt;omega)
 omega
def dZ:List Rat→Nat
 | []=>0
 | q::l=>wt q+dZ l
def ff:List Rat→Nat
 | []=>1
 | q::l=>q.den*ff l
theorem CP(l:List Rat):0<ff l:=by
 induction l with
 | nil=>exact Nat.one_pos
 | cons q l ih=>exact Nat.mul_pos (Nat.pos_of_ne_zero q.den_nz) ih
theorem wg(l:List Rat):ff l≤2^dZ l:=by
 induction l with
 | nil=>exact Nat.le_refl _
 | cons q l ih=>
  simp only[ff,dZ,Nat.pow_add]
  exact Nat.mul_le_mul (Ug q) ih
theorem Uh{l:List Rat}{q:Rat}(h:q∈l):∃k,ff l=q.den*k:=by
 induction l with
 | nil=>cases h
 | cons r l ih=>
  rcases List.mem_cons.1 h with rfl | h
  ·exact⟨_,rfl⟩
  ·obtain⟨k,hk⟩:=ih h
   exact⟨r.den*k,by simp only[ff,hk];rw[Nat.mul_left_comm]⟩
theorem Ui{l:List Rat}{q:Rat}(h:q∈l):wt q≤dZ l:=by
 induction l with
 | nil=>cases h
 | cons r l ih=>
  simp only[dZ]
  rcases List.mem_cons.1 h with rfl | h
  ·omega
  ·have:=ih h;omega
theorem Gl{l:List Rat}{q:Rat}(h:q∈l):dz (ff l) (2^(2*dZ l)) q:=by
 obtain⟨k,hk⟩:=Uh h
 refine⟨q.num*k,?_,?_⟩
 ·rw[hk,Rat.natCast_mul,Rat.intCast_mul]
  have h1:q*(q.den:Rat)=(q.num:Rat):=by
   have hd:(q.den:Rat)≠0:=fun e=>q.den_nz (by exact_mod_cast e)
   have e:=Rat.mkRat_self q
   rw[Rat.mkRat_eq_div]at e
   grind
  have h2:((k:Int):Rat)=(k:Rat):=rfl
  rw[h2,←h1];grind
 ·rw[Int.natAbs_mul,Int.natAbs_natCast]
  have h1:=Uf q
  have h2:=Nat.pow_le_pow_right (n:=2) (by decide) (Ui h)
  have h3:k≤ff l:=by
   rw[hk];exact Nat.le_mul_of_pos_left _ (Nat.pos_of_ne_zero q.den_nz)
  have h4:=wg l
  rw[Nat.two_mul,Nat.pow_add]
  exact Nat.mul_le_mul (Nat.le_trans h1 h2) (Nat.le_trans h3 h4)
theorem Lx(l:List Rat)(z:Int)(hz:z.natAbs≤1):dz (ff l) (2^(2*dZ l)) (z:Rat):=by
 refine⟨z*ff l,?_,?_⟩
 ·rw[Rat.intCast_mul];rfl
 ·rw[Int.natAbs_mul,Int.natAbs_natCast]
  have h1:z.natAbs*ff l≤1*ff l:=Nat.mul_le_mul_right _ hz
  have h2:=wg l
  have h3:=Nat.pow_le_pow_right (n:=2) (by decide) (show dZ l≤2*dZ l by omega)
  omega
theorem dz.neg{D X:Nat}{q:Rat}(h:dz D X q):dz D X (-q):=by
 obtain⟨z,h1,h2⟩:=h
 exact⟨-z,by rw[Rat.intCast_neg,←h1];grind,by omega⟩
theorem dz.sub{D X Y:Nat}{q r:Rat}(h:dz D X q)(k:dz D Y r):dz D (X+Y) (q-r):=by
 obtain⟨z,h1,h2⟩:=h
 obtain⟨y,k1,k2⟩:=k
 exact⟨z-y,by rw[Rat.intCast_sub,←h1,←k1];grind,by omega⟩
theorem CQ(D X:Nat):dz D X 0:=⟨0,by grind,by simp⟩
theorem Uj{D X:Nat}(m:Nat)(f:Nat→Rat)(h:∀i,i<m→dz D X (f i)):dz D (m*X) (aN m f):=by
 induction m with
 | zero=>rw[vW];exact CQ _ _
 | succ m ih=>
  rw[eG,Nat.succ_mul]
  obtain⟨z,h1,h2⟩:=ih (fun i hi=>h i (by omega))
  obtain⟨y,k1,k2⟩:=h m (by omega)
  exact⟨z+y,by rw[Rat.intCast_add,←h1,←k1];grind,by omega⟩
end
end al
end Lp
namespace Go.au
open Go.Proofs Num Lp
def aH(f:Nat→Rat)(n:Nat):List Rat:=(List.range n).map f
theorem bV(f:Nat→Rat)(n:Nat):(aH f n).length=n:=by simp[aH]
theorem dQ{f:Nat→Rat}{n j:Nat}(h:j<n):(aH f n)[j]? = some (f j):=by simp[aH,h]
theorem il{f g:Nat→Rat}{n:Nat}(h:∀j,j<n→f j=g j):aH f n=aH g n:=by
 apply List.ext_getElem?
 intro j
 by_cases hj:j<n
 ·rw[dQ hj,dQ hj,h j hj]
 ·rw[List.getElem?_eq_none (by rw[bV];omega),List.getElem?_eq_none (by rw[bV];omega)]
theorem wh{f:Nat→Rat}{n j:Nat}(h:j<n):fn (aH f n) j=f j:=jl (dQ h)
def gf(f g:Nat→Rat)(k:Nat)(j:Nat):Rat:=if j<k then f j else g j
theorem Ly{f g:Nat→Rat}{n k:Nat}:(aH (gf f g k) n).set k (f k)=aH (gf f g (k+1)) n:=by
 apply List.ext_getElem?
 intro j
 by_cases hj:j<n
 ·by_cases e:j=k
  ·subst e
   rw[List.getElem?_set_self (by rw[bV];exact hj),dQ hj]
   simp[gf]
  ·rw[List.getElem?_set_ne (fun e'=>e e'.symm),dQ hj,dQ hj]
   unfold gf
   by_cases h:j<k
   ·rw[if_pos h,if_pos (by omega)]
   ·rw[if_neg h,if_neg (by omega)]
 ·rw[List.getElem?_eq_none (by rw[List.length_set,bV];omega),List.getElem?_eq_none (by rw[bV];omega)]
theorem LA{f g:Nat→Rat}{n k:Nat}(h:f k=g k):aH (gf f g k) n=aH (gf f g (k+1)) n:=il fun j _=>by
 unfold gf
 by_cases e:j=k
 ·subst e;rw[if_neg (by omega),if_pos (by omega),h]
 ·by_cases h':j<k
  ·rw[if_pos h',if_pos (by omega)]
  ·rw[if_neg h',if_neg (by omega)]
theorem LB{f g:Nat→Rat}{n:Nat}:aH (gf f g 0) n=aH g n:=il fun j _=>by simp[gf]
theorem LC{f g:Nat→Rat}{n:Nat}:aH (gf f g n) n=aH f n:=il fun j hj=>by simp[gf,hj]
def im(K:Heap)(H:Heap)(g:Nat)(l:List Rat):Prop:=∃xs sz,H g=some ⟨xs,sz,61,true⟩∧bF (aT K) 3 xs l
theorem im.le{K K' H H':Heap}{g:Nat}{l:List Rat}(h:im K H g l)(hl:Heap.le K K')(hs:H' g=H g):im K' H' g l:=by
 obtain⟨xs,sz,h1,h2⟩:=h
 exact⟨xs,sz,by rw[hs];exact h1,h2.mono fun vs a=>dT _ _ vs a hl⟩
theorem im.rd{K H:Heap}{g:Nat}{l:List Rat}(h:im K H g l){i:Nat}{q:Rat}(hq:l[i]? = some q):∃xs n d b,Rd H (some ⟨g,0,none⟩) xs∧aT K [.int .i64 n,.int .i64 d,.pointer b] q∧∀(j:Nat)(v:Value),[.int .i64 n,.int .i64 d,.pointer b][j]? = some v→xs[i*3+j]? = some v:=by
 obtain⟨xs,sz,h1,h2⟩:=h
 obtain⟨vs,_,h3,h4⟩:=h2.get hq
 obtain⟨n,d,b,rfl⟩:=h3.cells
 exact⟨xs,n,d,b,nY h1,h3,h4⟩
structure Kept(gs:List Nat)(H H':Heap):Prop where
 le:Heap.le (rem H gs) (rem H' gs)
 same:∀q,q∈gs→H' q=H q
structure jF(gs:List Nat)(g:Nat)(H H':Heap):Prop where
 le:Heap.le (rem H gs) (rem H' gs)
 same:∀q,q∈gs→q≠g→H' q=H q
theorem Kept.refl(gs:List Nat)(H:Heap):Kept gs H H:=⟨.refl _,fun _ _=>rfl⟩
theorem Kept.trans{gs:List Nat}{A B C:Heap}(h:Kept gs A B)(k:Kept gs B C):Kept gs A C:=⟨h.le.trans k.le,fun q hq=>(k.same q hq).trans (h.same q hq)⟩
theorem jF.trans{gs:List Nat}{g:Nat}{A B C:Heap}(h:jF gs g A B)(k:jF gs g B C):jF gs g A C:=⟨h.le.trans k.le,fun q hq a4=>(k.same q hq a4).trans (h.same q hq a4)⟩
theorem Kept.l8{gs:List Nat}{H H':Heap}(h:Kept gs H H')(g:Nat):jF gs g H H':=⟨h.le,fun q hq _=>h.same q hq⟩
theorem jF.ins{gs:List Nat}{g:Nat}{H H':Heap}(h:jF gs g H H')(hg:g∈gs)(e:aG):jF gs g H (ins H' g e):=
 ⟨by rw[bY _ hg];exact h.le,fun q hq a4=>by rw[bD _ _ a4];exact h.same q hq a4⟩
theorem Kept.of{gs:List Nat}{H H':Heap}{v:Value}{aY:Value→Heap→Prop}(h:Co gs aY H v H')(hl:∀v K,aY v K→Heap.le (rem H gs) K):Kept gs H H':=⟨hl _ _ h.post,h.same⟩
theorem Kept.ne{gs:List Nat}{H H':Heap}(h:Kept gs H H')(hn:∀q,q∈gs→H q≠none):∀q,q∈gs→H' q≠none:=fun q hq=>by rw[h.same q hq];exact hn q hq
structure LD(gs:List Nat)(H:Heap)(q:Rat)(v:Value)(H':Heap):Prop where
 kept:Kept gs H H'
 le:Heap.le H H'
 val:∃n d b,v=N3 n d b∧aT (rem H' gs) [.int .i64 n,.int .i64 d,.pointer b] q
structure Uk(gs:List Nat)(H:Heap)(x:Value)(v:Value)(H':Heap):Prop where
 kept:Kept gs H H'
 le:Heap.le H H'
 val:v=x
theorem Fn.fw{P:Program}{f:FuncId}{args:Array Value}{H:Heap}{gs:List Nat}{q:Rat}(oW:∀g,g∈gs→H g≠none)(h:Fn P f args (rem H gs) (mV (rem H gs) q)):Fn P f args H (LD gs H q):=
 (Fn.frame oW h).mono fun v H' hf=>by
  refine⟨.of hf fun v K hp=>hp.1,hf.le fun v K hp=>hp.1,?_⟩
  obtain⟨_,vs,rfl,hn⟩:=hf.post
  obtain⟨n,d,b,rfl⟩:=hn.cells
  exact⟨n,d,b,rfl,hn⟩
theorem Fn.m0{P:Program}{f:FuncId}{args:Array Value}{H:Heap}{gs:List Nat}{x:Value}(oW:∀g,g∈gs→H g≠none)(h:Fn P f args (rem H gs) (fun v H'=>Heap.le (rem H gs) H'∧v=x)):Fn P f args H (Uk gs H x):=
 (Fn.frame oW h).mono fun v H' hf=>⟨.of hf fun v K hp=>hp.1,hf.le fun v K hp=>hp.1,hf.post.2⟩
theorem im.set{K H:Heap}{g:Nat}{f b:Nat→Rat}{n k:Nat}{xs:List Value}{sz:Nat}(h2:bF (aT K) 3 xs (aH (gf f b k) n))(hk:k<n){vs:List Value}(hv:aT K vs (f k))(e:H g=some ⟨aA xs (k*3) vs,sz,61,true⟩):im K H g (aH (gf f b (k+1)) n):=by
 refine⟨_,_,e,?_⟩
 rw[←Ly]
 exact h2.set (by rw[bV];exact hk) hv hv.len
end Go.au
namespace Go.au
open Go.Proofs Num Lp
theorem LF{H:Heap}{gs:List Nat}{g gl gr:Nat}{ts:List Value}{Ar:Option Addr}{m cr:Nat}{ly:List Value}{row n c1 cl N:Nat}{a b:Nat→Rat}{fs:List Value}{f:Rat}
 (a4:∀q,q∈gs→H q≠none) (hg:g∈gs) (qj:gl∈gs) (LG:gr∈gs) (tY:gl≠gr) (yD:g≠gl) (ht:H g=some ⟨ts,9,68,true⟩) (Ul:ts[6]? = some (.slice Ar m cr)) (lO:Rd (rem H gs) Ar ly) (yE:row<m) (g6:ly[row]? = some (.slice (some ⟨gr,0,none⟩) n c1))
 (oQ:im (rem H gs) H gr (aH a n)) (ku:im (rem H gs) H gl (aH b n)) (hf:aT (rem H gs) fs f) (hN:(N:Int)≤549755813888) (hn:(n:Int)≤1099511627776) (sf:aC f≤N) (sa:∀j,j<n→aC (a j)≤N) (sb:∀j,j<n→aC (b j)≤N):
 Fn Tryz.prog 61 #[.pointer (some ⟨g,0,none⟩),.slice (some ⟨gl,0,none⟩) n cl,.int .i64 (row:Int),.agg fs.toArray] H (fun _ H'=>jF gs gl H H'∧im (rem H' gs) H' gl (aH (fun j=>b j-f*a j) n)):=by
 obtain⟨nf,df,bf,rfl⟩:=hf.cells;refine aU (args:=[_,_,_,_]) Tryz.func61 rfl rfl Tryz.ntmps61 rfl rfl fun w0=> ?_;refine ah [0,1,2,3] rfl ?_;refine ae (bR rfl rfl (ab [0,1,2,7] ?_));refine ao (ae (aa 1 rfl (aq rfl rfl (Fn.m0 a4 (fq hf (by omega))) ?_)));rintro v1 H1 ⟨fD,bC,rfl⟩;refine aa 1 rfl (ab [0,1,2,7,12] ?_);refine az rfl (fun hb=> ?_) (fun hb=> ?_)
 ·
  have hb:f=0:=tW (by simpa using hb);refine ar ⟨.inr rfl,_,.nil,?_⟩;exact⟨fD.l8 gl,by rw[il (g:=b) (fun j _=>by rw[hb];grind)];exact ku.le fD.le (fD.same gl qj)⟩
 ·
  skip
  refine aw (ah [0,1,2,7] rfl ?_);refine ae (aa 2 rfl (aX ag rfl rfl rfl (aP ag rfl rfl rfl (by rw[show cell H1 ((⟨g,0,none⟩:Addr).add 6)=ts[6]? by simp[cell,iJ,fD.same g hg,ht]];exact Ul) ?_)));refine aa 1 rfl (a5 ag rfl rfl rfl rfl rfl ((lO.le fD.le).le (bE _ _)) (by rw[Int.toNat_natCast];exact g6) (by omega) (by omega) fun _=> ?_);refine aa 2 rfl (ab [1,7,19,20,21] ?_);have Um:=oQ.le fD.le (fD.same gr LG);have Un:=ku.le fD.le (fD.same gl qj);have ie:=hf.le fD.le;have Uo:=fD.ne a4;clear oQ ku hf a4 ht lO;refine aD (gm (fun(k:Nat)=>n-k) (fun(k:Nat)=>put (put (put (put (put (emp) 1 (.val (.slice (some ⟨gl,0,none⟩) n cl))) 7 (.box [.int .i64 nf,.int .i64 df,.pointer bf])) 19 (.val (.slice (some ⟨gr,0,none⟩) n c1))) 20 (.val (.int .i64 (n:Int)))) 21 (.val (.int .i64 (k:Int)))) (fun(k:Nat) H'=>jF gs gl H1 H'∧im (rem H' gs) H' gl (aH (gf (fun j=>b j-f*a j) b k) n)∧k≤n) 0 (⟨(Kept.refl _ _).l8 _,by rw[LB];exact Un,Nat.zero_le _⟩) av ?_);rintro k H2 ⟨fG,cD,gj⟩;have Uq:=Um.le fG.le (fG.same gr LG (Ne.symm tY));have gW:=ie.le fG.le
  have qk:∀q,q∈gs→H2 q≠none:=fun q hq=>by
   by_cases e:q=gl
   ·
    obtain⟨xs,sz,h,_⟩:=cD;rw[e,h];simp
   ·rw[fG.same q hq e];exact Uo q hq
  refine ae (aa 1 rfl (ab [1,7,19,20,21,22] ?_));refine ao (az rfl (fun hb=> ?_) (fun hb=> ?_))
  ·
   have ea:k<n:=by simpa using hb
   obtain⟨xr,na,da,ba,yF,rG,Ur⟩:=Uq.rd (dQ ea);obtain⟨xl,nl,dl,bl,m5,wi,ck⟩:=cD.rd (dQ ea);rw[show gf (fun j=>b j-f*a j) b k k=b k by simp[gf]]at wi;have Gm:=sa k ea;have LH:=sb k ea;refine aw (ah [1,7,19,20,21] rfl ?_);refine ao (aD (ae (aa 1 rfl (cQ (vs:=[.int .i64 na,.int .i64 da,.pointer ba]) ag rfl rfl rfl rfl yF rfl (by decide) Ur (by omega) (by omega) fun _=>(bG cN rfl (vr 1 ?_))))));obtain⟨ti,aj,ak⟩:=a9;refine aO (.inl ⟨rfl,rfl⟩) rfl rfl rfl aj ak rfl rfl rfl (ab [1,7,8,9,19,20,21] ?_);refine ae (aa 1 rfl (aq rfl rfl (Fn.m0 qk (fq rG (by omega))) ?_));rintro v3 H3 ⟨dh,dH,rfl⟩;have CR:=dh.ne qk;have qX:=gW.le dh.le;have Us:=rG.le dh.le;have Ut:=wi.le dh.le;refine aa 1 rfl (ab [1,7,8,9,19,20,21,28] ?_);refine az rfl (fun hb=> ?_) (fun hb=> ?_)
   ·
    skip
    refine fk .fC [0,1,2,3,4,5,6,7,8,9,10,11] follows (by kernel_rfl) ?_;refine aa 4 rfl (cQ (vs:=[.int .i64 nl,.int .i64 dl,.pointer bl]) ag rfl rfl rfl rfl (m5.le dH) rfl (by decide) ck (by omega) (by omega) fun _=>(aa 2 rfl (aI rfl rfl (Fn.fw CR (qh (N:=N) qX Us sf Gm (by omega))) (fun _ _ h=>by first | exact h.le | exact h.1) ?_)));rintro v4 H4 ⟨dM,dr,n4,d4,b4,rfl,cE⟩;have Uu:=dM.ne CR;have EW:=nN f (a k);refine aI rfl rfl (Fn.fw Uu (o3 (N:=2*N) (Ut.le dM.le) cE (by omega) (by omega) (by omega))) (fun _ _ h=>by first | exact h.le | exact h.1) ?_;rintro v5 H5 ⟨iq,cU,n5,d5,b5,rfl,jG⟩;obtain⟨Gn,Uv,ma,o5⟩:=(cD.le (dh.le.trans dM.le) ((dM.same gl qj).trans (dh.same gl qj))).le iq.le (iq.same gl qj);have yG:=o5.len;rw[bV]at yG;obtain⟨ti,aj,ak⟩:=a9;refine dE (.inr rfl) ag rfl rfl rfl (by omega) (by omega) (ma) rfl (by show 0+n*3≤Gn.length;omega) aj ak (fun _=>rfl) rfl rfl rfl fun _=> ?_;refine ay (ah [1,7,19,20,21] rfl ?_);refine aB rfl (aJ rfl rfl ⟨by omega,by omega⟩ (aa 1 rfl (ay ?_)));exact⟨k+1,by omega,av,(((fG.trans (dh.l8 gl)).trans (dM.l8 gl)).trans (iq.l8 gl)).ins qj _,by rw[bY _ qj];exact im.set o5 ea jG (by rw[bn,Nat.zero_add];rfl),by omega⟩
   have hz:a k=0:=tW (by simpa using hb);refine aw (ah [1,7,19,20,21] rfl ?_);refine aB rfl (aJ rfl rfl ⟨by omega,by omega⟩ (aa 1 rfl (ay ?_)));exact⟨k+1,by omega,av,fG.trans (dh.l8 gl),by rw[←LA (show (fun j=>b j-f*a j) k=b k by show b k-f*a k=b k;rw[hz];grind)];exact cD.le dh.le (dh.same gl qj),by omega⟩
  have hb:n≤k:=by simpa using hb
  obtain rfl:k=n:=by omega
  refine bA ?_;refine⟨.inl rfl,_,.nil,?_⟩;exact⟨(fD.l8 gl).trans fG,by rw[←LC (g:=b)];exact cD⟩
end Go.au
namespace Go.au
open Go.Proofs Num Lp
def o6(_:Heap)(vs:List Value)(z:Int):Prop:=vs = [.int .i64 z]
def o7(_:Heap)(vs:List Value)(k:Nat):Prop:=vs = [.int .i64 (k:Int)]
theorem o8:Up o6:=fun _ _ _ _ _ h=>h
theorem jn:Up o7:=fun _ _ _ _ _ h=>h
structure TL where
 w:Nat
 u:Nat
 plus:List Nat
 minus:List Int
 gF:List Nat
 gu:List Rat
structure TG where
 g:Nat
 cr:Nat
 Ar:Option Addr
 pv:Value
 mv:Value
 uv:Value
 sv:Value
 cv:Value
 bv:Value
 rg:List (Nat×Nat)
 cb:List Nat
 bb:List Nat
def TG.gs(G:TG):List Nat:=G.g::(G.cb++(G.bb++G.rg.map (·.1)))
def TG.cells(G:TG)(w u m:Nat):List Value:=[.int .i64 (w:Int),.int .i64 (u:Int),G.pv,G.mv,G.uv,G.sv,.slice G.Ar m G.cr,G.cv,G.bv]
def hP(B:Nat→Nat)(m:Nat):List Value:=(List.range m).map fun i=> .int .i64 (B i:Int)
theorem ql{B:Nat→Nat}{m i:Nat}(h:i<m):(hP B m)[i]? = some (.int .i64 (B i:Int)):=by simp[hP,h]
theorem CS(B:Nat→Nat)(m:Nat):(hP B m).length=m:=by simp[hP]
theorem Uw{B C:Nat→Nat}{m:Nat}(h:∀i,i<m→B i=C i):hP B m=hP C m:=by
 unfold hP
 apply List.map_congr_left
 intro i hi
 rw[h i (List.mem_range.1 hi)]
structure cB(H:Heap)(G:TG)(L:TL)(T:al):Prop where
 n:T.n=L.w
 uw:L.u≤L.w
 st:H G.g=some ⟨G.cells L.w L.u T.m,9,68,true⟩
 nd:G.gs.Nodup
 jD:G.rg.length=T.m
 rows:∃xs,Rd (rem H G.gs) G.Ar xs∧∀(i:Nat)(p:Nat×Nat),G.rg[i]? = some p→xs[i]? = some (.slice (some ⟨p.1,0,none⟩) (L.w+1) p.2)
 row:∀(i:Nat)(p:Nat×Nat),G.rg[i]? = some p→im (rem H G.gs) H p.1 (aH (T.A i) (L.w+1))
 basis:(T.m=0∧G.bb = []∧G.bv = .slice none 0 0)∨∃gb cb sz,G.bb = [gb]∧G.bv = .slice (some ⟨gb,0,none⟩) T.m cb∧H gb=some ⟨hP T.B T.m,sz,3,true⟩
 plus:aM o7 1 (rem H G.gs) G.pv L.plus
 minus:aM o6 1 (rem H G.gs) G.mv L.minus
 gF:aM o7 1 (rem H G.gs) G.uv L.gF
 gu:aM aT 3 (rem H G.gs) G.sv L.gu
 cb:∀q,q∈G.cb→H q≠none
def fg(H:Heap)(G:TG)(L:TL)(T:al):Prop:=∃gc cc,G.cb = [gc]∧G.cv = .slice (some ⟨gc,0,none⟩) (L.w+1) cc∧im (rem H G.gs) H gc (aH T.c (L.w+1))
section
variable {H H':Heap} {G:TG} {L:TL} {T:al}
theorem TG.m6(G:TG):G.g∈G.gs:=List.mem_cons_self ..
theorem TG.rH{G:TG}{q:Nat}(h:q∈G.cb):q∈G.gs:=List.mem_cons_of_mem _ (List.mem_append_left _ h)
theorem TG.qm{G:TG}{q:Nat}(h:q∈G.bb):q∈G.gs:=List.mem_cons_of_mem _ (List.mem_append_right _ (List.mem_append_left _ h))
theorem TG.lz{G:TG}{i:Nat}{p:Nat×Nat}(h:G.rg[i]? = some p):p.1∈G.gs:=List.mem_cons_of_mem _ (List.mem_append_right _ (List.mem_append_right _ (List.mem_map.2 ⟨p,List.mem_of_getElem? h,rfl⟩)))
theorem cB.ne(h:cB H G L T):∀q,q∈G.gs→H q≠none:=fun q hq=>by
 rcases List.mem_cons.1 hq with rfl | hq
 ·rw[h.st];simp
 ·rcases List.mem_append.1 hq with hq | hq
  ·exact h.cb q hq
  ·rcases List.mem_append.1 hq with hq | hq
   ·rcases h.basis with ⟨_,h1,_⟩ | ⟨gb,cb,sz,h1,_,h2⟩
    ·rw[h1]at hq;cases hq
    ·rw[h1,List.mem_singleton]at hq
     rw[hq,h2];simp
   ·obtain⟨p,hp,rfl⟩:=List.mem_map.1 hq
    obtain⟨i,hi⟩:=List.getElem?_of_mem hp
    obtain⟨xs,sz,h1,_⟩:=h.row i p hi
    rw[h1];simp
theorem cB.cell(h:cB H G L T){k:Nat}{v:Value}(hk:(G.cells L.w L.u T.m)[k]? = some v):au.cell H ((⟨G.g,0,none⟩:Addr).add k)=some v:=by
 simp[au.cell,iJ,h.st,hk]
theorem cB.wj(h:cB H G L T):au.cell H (⟨G.g,0,none⟩:Addr)=some (.int .i64 (L.w:Int)):=by
 have:=h.cell (k:=0) (v:= .int .i64 (L.w:Int)) rfl
 rwa [iJ]at this
theorem TG.tZ{G:TG}(h:G.gs.Nodup){q:Nat}(hq:q∈G.cb∨q∈G.bb∨∃(i:Nat)(p:Nat×Nat),G.rg[i]? = some p∧p.1=q):G.g≠q:=by
 have h1:=(List.nodup_cons.1 h).1
 intro e
 subst e
 apply h1
 rcases hq with hq | hq | ⟨i,p,hp,he⟩
 ·exact List.mem_append_left _ hq
 ·exact List.mem_append_right _ (List.mem_append_left _ hq)
 ·exact List.mem_append_right _ (List.mem_append_right _ (List.mem_map.2 ⟨p,List.mem_of_getElem? hp,he⟩))
theorem TG.ua{G:TG}(h:G.gs.Nodup){q r:Nat}(hq:q∈G.cb)(hr:r∈G.bb∨∃(i:Nat)(p:Nat×Nat),G.rg[i]? = some p∧p.1=r):q≠r:=by
 have h1:=(List.nodup_append.1 (List.nodup_cons.1 h).2).2.2 q hq
 refine h1 r ?_
 rcases hr with hr | ⟨i,p,hp,he⟩
 ·exact List.mem_append_left _ hr
 ·exact List.mem_append_right _ (List.mem_map.2 ⟨p,List.mem_of_getElem? hp,he⟩)
theorem TG.LI{G:TG}(h:G.gs.Nodup){q:Nat}(hq:q∈G.bb){i:Nat}{p:Nat×Nat}(hp:G.rg[i]? = some p):q≠p.1:=
 (List.nodup_append.1 (List.nodup_append.1 (List.nodup_cons.1 h).2).2.1).2.2 q hq p.1 (List.mem_map.2 ⟨p,List.mem_of_getElem? hp,rfl⟩)
theorem TG.LJ{G:TG}(h:G.gs.Nodup){i j:Nat}{p q:Nat×Nat}(hp:G.rg[i]? = some p)(hq:G.rg[j]? = some q)(a4:i≠j):p.1≠q.1:=by
 have h1:=(List.nodup_append.1 (List.nodup_append.1 (List.nodup_cons.1 h).2).2.1).2.1
 intro e
 have hi:(G.rg.map (·.1))[i]? = some p.1:=by rw[List.getElem?_map,hp];rfl
 have hj:(G.rg.map (·.1))[j]? = some p.1:=by rw[List.getElem?_map,hq,e];rfl
 obtain⟨hi1,nC⟩:=List.getElem?_eq_some_iff.1 hi
 obtain⟨pZ,tf⟩:=List.getElem?_eq_some_iff.1 hj
 exact a4 ((List.getElem_inj h1).1 (nC.trans tf.symm))
theorem cB.kept(h:cB H G L T)(k:Kept G.gs H H'):cB H' G L T where
 n:=h.n
 uw:=h.uw
 st:=by rw[k.same _ G.m6];exact h.st
 nd:=h.nd
 jD:=h.jD
 rows:=by obtain⟨xs,h1,h2⟩:=h.rows;exact⟨xs,h1.le k.le,h2⟩
 row:=fun i p hp=>(h.row i p hp).le k.le (k.same _ (TG.lz hp))
 basis:=by
  rcases h.basis with h1 | ⟨gb,cb,sz,h1,h2,h3⟩
  ·exact .inl h1
  ·exact .inr ⟨gb,cb,sz,h1,h2,by rw[k.same _ (TG.qm (by rw[h1];exact List.mem_singleton.2 rfl))];exact h3⟩
 plus:=h.plus.le jn k.le
 minus:=h.minus.le o8 k.le
 gF:=h.gF.le jn k.le
 gu:=h.gu.le dT k.le
 cb:=fun q hq=>by rw[k.same _ (TG.rH hq)];exact h.cb q hq
theorem fg.kept(h:fg H G L T)(k:Kept G.gs H H'):fg H' G L T:=by
 obtain⟨gc,cc,h1,h2,h3⟩:=h
 exact⟨gc,cc,h1,h2,h3.le k.le (k.same _ (TG.rH (by rw[h1];exact List.mem_singleton.2 rfl)))⟩
theorem cB.congr{T':al}(h:cB H G L T)(hm:T'.m=T.m)(hn:T'.n=T.n)(hA:∀i,i<T.m→∀j,j≤T.n→T'.A i j=T.A i j)(hB:∀i,i<T.m→T'.B i=T.B i):cB H G L T' where
 n:=hn.trans h.n
 uw:=h.uw
 st:=by rw[hm];exact h.st
 nd:=h.nd
 jD:=h.jD.trans hm.symm
 rows:=h.rows
 row:=fun i p hp=>by
  have hi:i<T.m:=by rw[←h.jD];exact(List.getElem?_eq_some_iff.1 hp).1
  rw[il (g:=T.A i) (fun j hj=>hA i hi j (by rw[h.n];omega))];exact h.row i p hp
 basis:=by
  rw[hm,Uw hB];exact h.basis
 plus:=h.plus
 minus:=h.minus
 gF:=h.gF
 gu:=h.gu
 cb:=h.cb
theorem fg.congr{T':al}(h:fg H G L T)(hc:∀j,j≤L.w→T'.c j=T.c j):fg H G L T':=by
 obtain⟨gc,cc,h1,h2,h3⟩:=h
 exact⟨gc,cc,h1,h2,by rw[il (g:=T.c) (fun j hj=>hc j (by omega))];exact h3⟩
def _root_.Lp.al.setRow(T:al)(i:Nat)(f:Nat→Rat):al:={T with A:=fun k=>if k=i then f else T.A k}
theorem cB.setRow(h:cB H G L T){i:Nat}{p:Nat×Nat}(hp:G.rg[i]? = some p)(k:jF G.gs p.1 H H'){f:Nat→Rat}(hb:im (rem H' G.gs) H' p.1 (aH f (L.w+1))):cB H' G L (T.setRow i f) where
 n:=h.n
 uw:=h.uw
 st:=by rw[k.same _ G.m6 (TG.tZ h.nd (.inr (.inr ⟨i,p,hp,rfl⟩)))];exact h.st
 nd:=h.nd
 jD:=h.jD
 rows:=by obtain⟨xs,h1,h2⟩:=h.rows;exact⟨xs,h1.le k.le,h2⟩
 row:=fun j q hq=>by
  by_cases e:j=i
  ·subst e
   rw[hp]at hq
   cases hq
   simp only[al.setRow,if_true]
   exact hb
  ·simp only[al.setRow,if_neg e]
   exact(h.row j q hq).le k.le (k.same _ (TG.lz hq) (TG.LJ h.nd hq hp e))
 basis:=by
  rcases h.basis with h1 | ⟨gb,cb,sz,h1,h2,h3⟩
  ·exact .inl h1
  ·have hm:gb∈G.bb:=by rw[h1];exact List.mem_singleton.2 rfl
   exact .inr ⟨gb,cb,sz,h1,h2,by rw[k.same _ (TG.qm hm) (TG.LI h.nd hm hp)];exact h3⟩
 plus:=h.plus.le jn k.le
 minus:=h.minus.le o8 k.le
 gF:=h.gF.le jn k.le
 gu:=h.gu.le dT k.le
 cb:=fun q hq=>by rw[k.same _ (TG.rH hq) (TG.ua h.nd hq (.inr ⟨i,p,hp,rfl⟩))];exact h.cb q hq
theorem fg.setRow(h:fg H G L T)(nd:G.gs.Nodup){i:Nat}{p:Nat×Nat}(hp:G.rg[i]? = some p)(k:jF G.gs p.1 H H')(f:Nat→Rat):fg H' G L (T.setRow i f):=by
 obtain⟨gc,cc,h1,h2,h3⟩:=h
 have hm:gc∈G.cb:=by rw[h1];exact List.mem_singleton.2 rfl
 exact⟨gc,cc,h1,h2,h3.le k.le (k.same _ (TG.rH hm) (TG.ua nd hm (.inr ⟨i,p,hp,rfl⟩)))⟩
theorem cB.Ux(h:cB H G L T){gc:Nat}(hc:G.cb = [gc])(k:jF G.gs gc H H'){f:Nat→Rat}(hb:im (rem H' G.gs) H' gc (aH f (L.w+1))):cB H' G L {T with c:=f}:=by
 have hm:gc∈G.cb:=by rw[hc];exact List.mem_singleton.2 rfl
 exact
 {n:=h.n
  uw:=h.uw
  st:=by rw[k.same _ G.m6 (TG.tZ h.nd (.inl hm))];exact h.st
  nd:=h.nd
  jD:=h.jD
  rows:=by obtain⟨xs,h1,h2⟩:=h.rows;exact⟨xs,h1.le k.le,h2⟩
  row:=fun j q hq=>(h.row j q hq).le k.le (k.same _ (TG.lz hq) (fun e=>TG.ua h.nd hm (.inr ⟨j,q,hq,rfl⟩) e.symm))
  basis:=by
   rcases h.basis with h1 | ⟨gb,cb,sz,h1,h2,h3⟩
   ·exact .inl h1
   ·have aS:gb∈G.bb:=by rw[h1];exact List.mem_singleton.2 rfl
    exact .inr ⟨gb,cb,sz,h1,h2,by rw[k.same _ (TG.qm aS) (fun e=>TG.ua h.nd hm (.inl aS) e.symm)];exact h3⟩
  plus:=h.plus.le jn k.le
  minus:=h.minus.le o8 k.le
  gF:=h.gF.le jn k.le
  gu:=h.gu.le dT k.le
  cb:=fun q hq=>by
   rw[hc,List.mem_singleton]at hq
   obtain⟨xs,sz,h1,_⟩:=hb
   rw[hq,h1];simp}
theorem cB.Gp(h:cB H G L T){gb cb sz:Nat}(hb:G.bb = [gb])(hv:G.bv = .slice (some ⟨gb,0,none⟩) T.m cb){r s:Nat}{e:aG}(he:e=⟨hP (fun i=>if i=r then s else T.B i) T.m,sz,3,true⟩):cB (ins H gb e) G L {T with B:=fun i=>if i=r then s else T.B i}:=by
 have hm:gb∈G.bb:=by rw[hb];exact List.mem_singleton.2 rfl
 have k:jF G.gs gb H (ins H gb e):=((Kept.refl _ _).l8 gb).ins (TG.qm hm) e
 exact
 {n:=h.n
  uw:=h.uw
  st:=by rw[k.same _ G.m6 (TG.tZ h.nd (.inr (.inl hm)))];exact h.st
  nd:=h.nd
  jD:=h.jD
  rows:=by obtain⟨xs,h1,h2⟩:=h.rows;exact⟨xs,h1.le k.le,h2⟩
  row:=fun j q hq=>(h.row j q hq).le k.le (k.same _ (TG.lz hq) (fun e=>TG.LI h.nd hm hq e.symm))
  basis:= .inr ⟨gb,cb,sz,hb,hv,by rw[bn,he]⟩
  plus:=h.plus.le jn k.le
  minus:=h.minus.le o8 k.le
  gF:=h.gF.le jn k.le
  gu:=h.gu.le dT k.le
  cb:=fun q hq=>by rw[k.same _ (TG.rH hq) (TG.ua h.nd hq (.inl hm))];exact h.cb q hq}
theorem fg.Gp(h:fg H G L T)(nd:G.gs.Nodup){gb:Nat}(hb:G.bb = [gb])(e:aG)(B:Nat→Nat):fg (ins H gb e) G L {T with B:=B}:=by
 have hm:gb∈G.bb:=by rw[hb];exact List.mem_singleton.2 rfl
 have k:jF G.gs gb H (ins H gb e):=((Kept.refl _ _).l8 gb).ins (TG.qm hm) e
 obtain⟨gc,cc,h1,h2,h3⟩:=h
 have LK:gc∈G.cb:=by rw[h1];exact List.mem_singleton.2 rfl
 exact⟨gc,cc,h1,h2,h3.le k.le (k.same _ (TG.rH LK) (TG.ua nd LK (.inl hm)))⟩
structure Sz(N:Nat)(T:al):Prop where
 A:∀i,i<T.m→∀j,j≤T.n→aC (T.A i j)≤N
 c:∀j,j≤T.n→aC (T.c j)≤N
end
end Go.au
namespace Go.au
open Go.Proofs Num Lp
section
variable {H:Heap} {G:TG} {L:TL} {T:al} {N:Nat} {fs:List Value} {f:Rat}
theorem Uy(h:cB H G L T){i r:Nat}{p q:Nat×Nat}(hp:G.rg[i]? = some p)(hq:G.rg[r]? = some q)(a4:i≠r)(hf:aT (rem H G.gs) fs f)(hN:(N:Int)≤549755813888)(hw:(L.w:Int)≤1000000)(sf:aC f≤N)(si:∀j,j≤L.w→aC (T.A i j)≤N)(sr:∀j,j≤L.w→aC (T.A r j)≤N):
  Fn Tryz.prog 61 #[.pointer (some ⟨G.g,0,none⟩),.slice (some ⟨p.1,0,none⟩) (L.w+1) p.2,.int .i64 (r:Int),.agg fs.toArray] H (fun _ H'=>cB H' G L (T.setRow i (fun j=>T.A i j-f*T.A r j))∧jF G.gs p.1 H H'):=by
 obtain⟨ly,lO,g6⟩:=h.rows
 refine(LF (N:=N) h.ne G.m6 (TG.lz hp) (TG.lz hq) (TG.LJ h.nd hp hq a4) (TG.tZ h.nd (.inr (.inr ⟨i,p,hp,rfl⟩))) h.st rfl lO ?_ (g6 r q hq) (h.row r q hq) (h.row i p hp) hf hN (by omega) sf (fun j hj=>sr j (by omega)) (fun j hj=>si j (by omega))).mono fun v H' hh=>⟨h.setRow hp hh.1 hh.2,hh.1⟩
 rw[←h.jD];exact(List.getElem?_eq_some_iff.1 hq).1
theorem LL(h:cB H G L T)(hc:fg H G L T){r:Nat}{q:Nat×Nat}(hq:G.rg[r]? = some q)(hf:aT (rem H G.gs) fs f)(hN:(N:Int)≤549755813888)(hw:(L.w:Int)≤1000000)(sf:aC f≤N)(si:∀j,j≤L.w→aC (T.c j)≤N)(sr:∀j,j≤L.w→aC (T.A r j)≤N):
  Fn Tryz.prog 61 #[.pointer (some ⟨G.g,0,none⟩),G.cv,.int .i64 (r:Int),.agg fs.toArray] H (fun _ H'=>cB H' G L {T with c:=fun j=>T.c j-f*T.A r j}∧fg H' G L {T with c:=fun j=>T.c j-f*T.A r j}∧Heap.le (rem H G.gs) (rem H' G.gs)):=by
 obtain⟨ly,lO,g6⟩:=h.rows
 obtain⟨gc,cc,h1,h2,h3⟩:=hc
 have hm:gc∈G.cb:=by rw[h1];exact List.mem_singleton.2 rfl
 rw[h2]
 refine(LF (N:=N) h.ne G.m6 (TG.rH hm) (TG.lz hq) (TG.ua h.nd hm (.inr ⟨r,q,hq,rfl⟩)) (TG.tZ h.nd (.inl hm)) h.st rfl lO ?_ (g6 r q hq) (h.row r q hq) h3 hf hN (by omega) sf (fun j hj=>sr j (by omega)) (fun j hj=>si j (by omega))).mono fun v H' hh=>⟨h.Ux h1 hh.1 hh.2,⟨gc,cc,h1,h2,hh.2⟩,hh.1.le⟩
 rw[←h.jD];exact(List.getElem?_eq_some_iff.1 hq).1
end
theorem Uz{B:Nat→Nat}{m r s:Nat}:(hP B m).set r (.int .i64 (s:Int))=hP (fun i=>if i=r then s else B i) m:=by
 apply List.ext_getElem?
 intro i
 by_cases hi:i<m
 ·by_cases e:i=r
  ·subst e
   rw[List.getElem?_set_self (by rw[CS];exact hi),ql hi,if_pos rfl]
  ·rw[List.getElem?_set_ne (fun e'=>e e'.symm),ql hi,ql hi,if_neg e]
 ·rw[List.getElem?_eq_none (by rw[List.length_set,CS];omega),List.getElem?_eq_none (by rw[CS];omega)]
def iu(T:al)(r s k:Nat):al:={T with A:=fun i=>if i=r then(fun j=>T.A r j/T.A r s)else if i<k then(fun j=>T.A i j-T.A i s*(T.A r j/T.A r s))else T.A i}
theorem UA{T:al}{r s k:Nat}(hk:k≠r)(i j:Nat):(iu T r s (k+1)).A i j=((iu T r s k).setRow k (fun j=>(iu T r s k).A k j-T.A k s*(iu T r s k).A r j)).A i j:=by
 unfold al.setRow iu
 simp only
 by_cases e1:i=k
 ·subst e1
  rw[if_neg hk,if_pos (by omega),if_pos rfl,if_neg hk,if_neg (by omega),if_pos trivial]
 ·rw[if_neg e1]
  by_cases e2:i=r
  ·rw[if_pos e2,if_pos e2]
  ·rw[if_neg e2,if_neg e2]
   by_cases e3:i<k
   ·rw[if_pos (by omega),if_pos e3]
   ·rw[if_neg (by omega),if_neg e3]
theorem UB{T:al}{r s k:Nat}(hk:k=r)(i j:Nat):(iu T r s (k+1)).A i j=(iu T r s k).A i j:=by
 unfold iu
 simp only
 by_cases e2:i=r
 ·rw[if_pos e2,if_pos e2]
 ·rw[if_neg e2,if_neg e2]
  by_cases e3:i<k
  ·rw[if_pos (by omega),if_pos e3]
  ·rw[if_neg (by omega),if_neg e3]
theorem cB.get{H:Heap}{G:TG}{L:TL}{T:al}(h:cB H G L T){i:Nat}(hi:i<T.m):∃p,G.rg[i]? = some p:=⟨_,List.getElem?_eq_getElem (by rw[h.jD];exact hi)⟩
theorem LM{H:Heap}{G:TG}{L:TL}{T:al}{N r s:Nat}(h:cB H G L T)(hc:fg H G L T)(hr:r<T.m)(hs:s<L.w)(hp:T.A r s≠0)(hz:Sz N T)(UC:Sz N (T.bM r s))(hN:(N:Int)≤549755813888)(hw:(L.w:Int)≤1000000)(hm:(T.m:Int)≤1000000):
 Fn Tryz.prog 63 #[.pointer (some ⟨G.g,0,none⟩),.int .i64 (r:Int),.int .i64 (s:Int)] H (fun _ H'=>cB H' G L (T.bM r s)∧fg H' G L (T.bM r s)∧Heap.le (rem H G.gs) (rem H' G.gs)):=by
 obtain⟨pr,m7⟩:=h.get hr
 obtain⟨ly,lO,g6⟩:=h.rows
 have nW:s≤T.n:=by rw[h.n];omega
 have LN:∀j,j≤L.w→aC (T.A r j/T.A r s)≤N:=fun j hj=>by
  have:=UC.A r hr j (by show j≤T.n;rw[h.n];exact hj)
  simpa [al.bM]using this
 have CT:∀i,i<T.m→∀j,j≤L.w→aC (T.A i j)≤N:=fun i hi j hj=>hz.A i hi j (by rw[h.n];exact hj)
 obtain⟨xp,np,dp,bp,eH,UD,ub⟩:=(h.row r pr m7).rd (dQ (show s<L.w+1 by omega));refine aU (args:=[_,_,_]) Tryz.func63 rfl rfl Tryz.ntmps63 rfl rfl fun w0=> ?_;refine ah [0,1,2] rfl ?_;refine ae (aa 2 rfl (aX ag rfl rfl rfl (aP ag rfl rfl rfl (h.cell rfl) (aa 1 rfl (a5 ag rfl rfl rfl rfl rfl (lO.le (bE _ _)) (by rw[Int.toNat_natCast];exact g6 r pr m7) (by omega) (by omega) fun _=> ?_)))));refine aa 1 rfl (ab [0,1,2,6] ?_);refine ae (aa 2 rfl (cQ (vs:=[.int .i64 np,.int .i64 dp,.pointer bp]) ag rfl rfl rfl rfl eH rfl (by decide) (by rw[Int.toNat_natCast];exact ub) (by omega) (by omega) fun _=> ?_));refine bG cN rfl ?_;obtain⟨ti,aj,ak⟩:=a9;refine aO (.inl ⟨rfl,rfl⟩) rfl rfl rfl aj ak rfl rfl rfl (ab [0,1,2,6,7] ?_);refine ao (ae (aa 3 rfl (ab [0,1,2,6,7,23,24,25] ?_)));refine aD (gm (fun(k:Nat)=>L.w+1-k) (fun(k:Nat)=>put (put (put (put (put (put (put (put (emp) 0 (.val (.pointer (some ⟨G.g,0,none⟩)))) 1 (.val (.int .i64 (r:Int)))) 2 (.val (.int .i64 (s:Int)))) 6 (.val (.slice (some ⟨pr.1,0,none⟩) (L.w+1) pr.2))) 7 (.box [.int .i64 np,.int .i64 dp,.pointer bp])) 23 (.val (.slice (some ⟨pr.1,0,none⟩) (L.w+1) pr.2))) 24 (.val (.int .i64 ((L.w+1:Nat):Int)))) 25 (.val (.int .i64 (k:Int)))) (fun(k:Nat) H'=>jF G.gs pr.1 H H'∧im (rem H' G.gs) H' pr.1 (aH (gf (fun j=>T.A r j/T.A r s) (T.A r) k) (L.w+1))∧k≤L.w+1) 0 (⟨(Kept.refl _ _).l8 _,by rw[LB];exact h.row r pr m7,Nat.zero_le _⟩) av ?_)
 rintro k H2 ⟨fG,cD,gj⟩;have UE:=UD.le fG.le
 have qk:∀q,q∈G.gs→H2 q≠none:=fun q hq=>by
  by_cases e:q=pr.1
  ·
   obtain⟨xs,sz,h,_⟩:=cD;rw[e,h];simp
  ·rw[fG.same q hq e];exact h.ne q hq
 refine ae (aa 1 rfl (ab [0,1,2,6,7,23,24,25,26] ?_));refine ao (az rfl (fun hb=> ?_) (fun hb=> ?_))
 ·
  have ea:k<L.w+1:=by simp at hb;omega
  obtain⟨xl,nl,dl,bl,m5,wi,ck⟩:=cD.rd (dQ ea);rw[show gf (fun j=>T.A r j/T.A r s) (T.A r) k k=T.A r k by simp[gf]]at wi;have Gm:=CT r hr k (by omega);have LH:=CT r hr s (by omega);refine aw (ah [0,1,2,6,7,23,24,25] rfl ?_);refine ao (aD (ae (aa 1 rfl (cQ (vs:=[.int .i64 nl,.int .i64 dl,.pointer bl]) ag rfl rfl rfl rfl m5 rfl (by decide) ck (by omega) (by omega) fun _=>(bG cN rfl (vr 1 ?_))))));obtain⟨ti,aj,ak⟩:=a9;refine aO (.inl ⟨rfl,rfl⟩) rfl rfl rfl aj ak rfl rfl rfl (ab [0,1,2,6,7,8,9,23,24,25] ?_);refine ae (aa 1 rfl (aq rfl rfl (Fn.m0 qk (fq wi (by omega))) ?_));rintro v3 H3 ⟨dh,dH,rfl⟩;have CR:=dh.ne qk;refine aa 1 rfl (ab [0,1,2,6,7,8,9,23,24,25,32] ?_);refine az rfl (fun hb=> ?_) (fun hb=> ?_)
  ·
   skip
   refine aB rfl (aa 4 rfl (aq rfl rfl (Fn.fw CR (Lq (N:=N) (wi.le dh.le) (UE.le dh.le) Gm LH (by omega) hp)) ?_));rintro v4 H4 ⟨dM,dr,n4,d4,b4,rfl,cE⟩;obtain⟨Gn,Uv,ma,o5⟩:=cD.le (dh.le.trans dM.le) ((dM.same _ (TG.lz m7)).trans (dh.same _ (TG.lz m7)));have yG:=o5.len;rw[bV]at yG;obtain⟨ti,aj,ak⟩:=a9;refine dE (.inl rfl) ag rfl rfl rfl (by omega) (by omega) (ma) rfl (by show 0+(L.w+1)*3≤Gn.length;omega) aj ak (fun _=>rfl) rfl rfl rfl fun _=> ?_;refine ay (ah [0,1,2,6,7,23,24,25] rfl ?_);refine aB rfl (aJ rfl rfl ⟨by omega,by omega⟩ (aa 1 rfl (ay ?_)));exact⟨k+1,by omega,av,((fG.trans (dh.l8 _)).trans (dM.l8 _)).ins (TG.lz m7) _,by rw[bY _ (TG.lz m7)];exact im.set o5 ea cE (by rw[bn,Nat.zero_add];rfl),by omega⟩
  ·
   have qn:T.A r k=0:=tW (by simpa using hb);refine aw (ah [0,1,2,6,7,23,24,25] rfl ?_);refine aB rfl (aJ rfl rfl ⟨by omega,by omega⟩ (aa 1 rfl (ay ?_)));exact⟨k+1,by omega,av,fG.trans (dh.l8 _),by rw[←LA (show (fun j=>T.A r j/T.A r s) k=T.A r k by show T.A r k/T.A r s=T.A r k;rw[qn,Rat.div_def,Rat.zero_mul])];exact cD.le dh.le (dh.same _ (TG.lz m7)),by omega⟩
 ·
  have hb:L.w+1≤k:=by simp at hb;omega
  obtain rfl:k=L.w+1:=by omega
  rw[LC]at cD;have ez:=fG.le;have oV:=(hc.setRow h.nd m7 fG (fun j=>T.A r j/T.A r s)).congr (T':=iu T r s 0) (fun j _=>rfl);have h3:=(h.setRow m7 fG cD).congr (T':=iu T r s 0) rfl rfl (fun i hi j hj=>by simp only[iu,al.setRow];split <;> rfl) (fun i hi=>rfl);refine bA (ah [0,1,2] rfl ?_);refine ao (ae (aa 2 rfl (aX ag rfl rfl rfl (aP ag rfl rfl rfl (h3.cell rfl) (aa 2 rfl (ab [0,1,2,43,44,45] ?_))))));refine aD (gm (fun(k:Nat)=>T.m-k) (fun(k:Nat)=>put (put (put (put (put (put (emp) 0 (.val (.pointer (some ⟨G.g,0,none⟩)))) 1 (.val (.int .i64 (r:Int)))) 2 (.val (.int .i64 (s:Int)))) 43 (.val (.slice G.Ar T.m G.cr))) 44 (.val (.int .i64 (T.m:Int)))) 45 (.val (.int .i64 (k:Int)))) (fun(k:Nat) H'=>cB H' G L (iu T r s k)∧fg H' G L (iu T r s k)∧Heap.le (rem H G.gs) (rem H' G.gs)∧k≤T.m) 0 (⟨h3,oV,ez,Nat.zero_le _⟩) av ?_);rintro k H4 ⟨h4,tr,eY,dM⟩;refine ae (aa 1 rfl (ab [0,1,2,43,44,45,46] ?_));refine ao (az rfl (fun hb=> ?_) (fun hb=> ?_))
  ·
   have iv:k<T.m:=by simpa using hb
   obtain⟨pk,mb⟩:=h.get iv;obtain⟨UF,Gq,lk⟩:=h4.rows;refine aw (ah [0,1,2,43,44,45] rfl ?_);refine ao (aD (ae (aa 1 rfl (a5 ag rfl rfl rfl rfl rfl (Gq.le (bE _ _)) (by rw[Int.toNat_natCast];exact lk k pk mb) (by omega) (by omega) fun _=> ?_))));refine aa 2 rfl (ab [0,1,2,10,11,43,44,45] ?_);refine ae (aa 3 rfl (ab [0,1,2,11,43,44,45,52] ?_));refine az rfl (fun hb=> ?_) (fun hb=> ?_)
   ·
    have rk:k≠r:=by simp at hb;omega
    obtain⟨xk,nk,dk,bk,CU,yH,CV⟩:=(h4.row k pk mb).rd (dQ (show s<L.w+1 by omega));rw[show (iu T r s k).A k s=T.A k s by simp[iu,rk]]at yH;refine aB rfl (aa 5 rfl (cQ (vs:=[.int .i64 nk,.int .i64 dk,.pointer bk]) ag rfl rfl rfl rfl CU rfl (by decide) (by rw[Int.toNat_natCast];exact CV) (by omega) (by omega) fun _=> ?_));refine aq rfl rfl (Uy (N:=N) h4 mb m7 rk yH hN hw (CT k iv s (by omega)) (fun j hj=>by simpa [iu,rk]using CT k iv j hj) (fun j hj=>by simpa [iu]using LN j hj)) ?_;rintro v5 H5 ⟨h5,yI⟩;refine ay (ah [0,1,2,43,44,45] rfl ?_);refine aB rfl (aJ rfl rfl ⟨by omega,by omega⟩ (aa 1 rfl (ay ?_)));exact⟨k+1,by omega,av,h5.congr rfl rfl (fun i hi j hj=>UA rk i j) (fun i hi=>rfl),(tr.setRow h4.nd mb yI (fun _=>0)).congr (fun j _=>rfl),eY.trans yI.le,by omega⟩
   have rk:k=r:=by simp at hb;omega
   refine aw (ah [0,1,2,43,44,45] rfl ?_);refine aB rfl (aJ rfl rfl ⟨by omega,by omega⟩ (aa 1 rfl (ay ?_)));exact⟨k+1,by omega,av,h4.congr rfl rfl (fun i hi j hj=>UB rk i j) (fun i hi=>rfl),tr.congr (fun j _=>rfl),eY,by omega⟩
  have hb:T.m≤k:=by simpa using hb
  obtain rfl:k=T.m:=by omega
  obtain⟨gc,cc,CW,rI,uc⟩:=id tr;obtain⟨xc,nc,dc,bc,o9,q3,yJ⟩:=uc.rd (dQ (show s<L.w+1 by omega))
  have gw:cell H4 ((⟨G.g,0,none⟩:Addr).add 7)=some (.slice (some ⟨gc,0,none⟩) (L.w+1) cc):=by rw[←rI];exact h4.cell rfl
  refine bA (ah [0,1,2] rfl ?_);refine bT .oz [0,1,2,3,4,5,6,7,8,9,10,11,12,13] follows (by kernel_rfl) ?_;refine aa 3 rfl (aX ag rfl rfl rfl (aP ag rfl rfl rfl (gw) (aa 3 rfl (aX ag rfl rfl rfl (aP ag rfl rfl rfl (gw) (aa 1 rfl (cQ (vs:=[.int .i64 nc,.int .i64 dc,.pointer bc]) ag rfl rfl rfl rfl o9 rfl (by decide) (by rw[Int.toNat_natCast];exact yJ) (by omega) (by omega) fun _=> ?_)))))));refine KI rfl rfl (by rw[←rI];exact LL (N:=N) h4 tr m7 q3 hN hw (hz.c s nW) (fun j hj=>hz.c j (by rw[h.n];exact hj)) (fun j hj=>by simpa [iu]using LN j hj)) ?_;rintro v6 H6 ⟨h6,Gr,jH⟩
  obtain⟨gb,cb,sz,tK,iw,bO⟩:∃gb cb sz,G.bb = [gb]∧G.bv = .slice (some ⟨gb,0,none⟩) T.m cb∧H6 gb=some ⟨hP T.B T.m,sz,3,true⟩:=by
   rcases h6.basis with h7 | h7
   ·
    have h8:T.m=0:=h7.1
    omega
   ·exact h7
  refine ab [0,1,2] ?_;refine aB rfl (aa 2 rfl (aX ag rfl rfl rfl (aP ag rfl rfl rfl (show cell H6 _=some (.slice (some ⟨gb,0,none⟩) T.m cb)from by rw[←iw];exact h6.cell rfl) ?_)));refine vr 2 ?_;obtain⟨ti,aj,ak⟩:=pT;refine dE (.inl rfl) ag rfl rfl rfl (by omega) (by omega) (bO) rfl (by show 0+T.m*1≤(hP T.B T.m).length;rw[CS];omega) aj ak (fun _=>rfl) rfl rfl rfl fun _=> ?_;refine ay ?_;refine⟨.inl rfl,_,.nil,?_⟩
  have he:({(⟨hP T.B T.m,sz,3,true⟩:aG)with xs:=aA (hP T.B T.m) (0+((r:Int)).toNat*1) [.int .i64 (s:Int)]}:aG)=⟨hP (fun i=>if i=r then s else T.B i) T.m,sz,3,true⟩:=by
   rw[Int.toNat_natCast,Nat.mul_one,Nat.zero_add,←Uz];rfl
  refine⟨(h6.Gp (r:=r) (s:=s) (sz:=sz) tK iw he).congr (T':=T.bM r s) rfl rfl (fun i hi j hj=> ?_) (fun i hi=>rfl),(Gr.Gp h6.nd tK _ (fun _=>0)).congr (T':=T.bM r s) (fun j hj=> ?_),?_⟩
  ·
   have eA:i<T.m:=hi
   simp only[al.bM,iu]
   by_cases e:i=r
   ·simp[e]
   ·simp[e,eA]
  ·simp[al.bM,iu]
  have CX:gb∈G.gs:=TG.qm (by rw[tK];exact List.mem_singleton.2 rfl);rw[bY _ CX];exact eY.trans jH
end Go.au
namespace Go.au
open Go.Proofs Num Lp
theorem mc{q:Rat}:0≤eE q↔0≤q:=by
 unfold eE
 by_cases h:q<0
 ·rw[if_pos h];constructor <;> intro h' <;> first | omega | grind
 ·rw[if_neg h]
  by_cases e:q=0
  ·rw[if_pos e];constructor <;> intro h' <;> first | omega | grind
  ·rw[if_neg e];constructor <;> intro h' <;> first | omega | grind
theorem pa{q:Rat}:eE q≤0↔q≤0:=by
 unfold eE
 by_cases h:q<0
 ·rw[if_pos h];constructor <;> intro h' <;> first | omega | grind
 ·rw[if_neg h]
  by_cases e:q=0
  ·rw[if_pos e];constructor <;> intro h' <;> first | omega | grind
  ·rw[if_neg e];constructor <;> intro h' <;> first | omega | grind
theorem wk{q:Rat}:eE q<0↔q<0:=by
 have:=mc (q:=q)
 constructor
 ·intro h;false_or_by_contra;have:=this.2 (by grind);omega
 ·intro h;false_or_by_contra;have:=this.1 (by omega);grind
theorem Gs{q:Rat}:0<eE q↔0<q:=by
 have:=pa (q:=q)
 constructor
 ·intro h;false_or_by_contra;have:=this.2 (by grind);omega
 ·intro h;false_or_by_contra;have:=this.1 (by omega);grind
theorem j2{q:Rat}:eE q=0↔q=0:=by
 constructor
 ·exact tW
 ·intro h;rw[h];rfl
theorem UG(q:Rat):aC q⁻¹≤aC q:=by
 by_cases h:q=0
 ·rw[h,Rat.inv_zero];exact Nat.le_refl _
 ·have hn:0<q.num.natAbs:=by
   have:q.num≠0:=fun e=>h (Rat.num_eq_zero.1 e)
   omega
  have e:=Km (g:=decide (q.num<0)) (m:=q.num.natAbs) (e:=q.den) hn
  rw[tq]at e
  have h1:=jd (Nat.div_le_self q.den (Nat.gcd q.den q.num.natAbs))
  have h2:=jd (Nat.div_le_self q.num.natAbs (Nat.gcd q.den q.num.natAbs))
  rw[e]
  unfold aC
  rw[vJ hn,tl hn];omega
theorem Gt(p q:Rat):aC (p/q)≤aC p+aC q:=by
 rw[Rat.div_def]
 have h1:=nN p q⁻¹
 have h2:=UG q
 omega
def Found(T:al)(s k:Nat)(row:Int)(K:Heap)(ls:List Value):Prop:=
 (row = -1∧∀i,i<k→T.A i s≤0)∨∃r:Nat,row=(r:Int)∧r<k∧0<T.A r s∧aT K ls (T.A r T.n/T.A r s)∧
  ∀i,i<k→0<T.A i s→T.A r T.n/T.A r s<T.A i T.n/T.A i s∨(T.A r T.n/T.A r s=T.A i T.n/T.A i s∧T.B r≤T.B i)
section
variable {T:al} {s k:Nat} {row:Int} {K K':Heap} {ls:List Value}
theorem Found.le(h:Found T s k row K ls)(hl:Heap.le K K'):Found T s k row K' ls:=by
 rcases h with h | ⟨r,h1,h2,h3,h4,h5⟩
 ·exact .inl h
 ·exact .inr ⟨r,h1,h2,h3,h4.le hl,h5⟩
theorem Found.skip(h:Found T s k row K ls)(hk:T.A k s≤0):Found T s (k+1) row K ls:=by
 rcases h with ⟨h1,h2⟩ | ⟨r,h1,h2,h3,h4,h5⟩
 ·exact .inl ⟨h1,fun i hi=>by
   by_cases e:i=k
   ·rw[e];exact hk
   ·exact h2 i (by omega)⟩
 ·exact .inr ⟨r,h1,by omega,h3,h4,fun i hi hp=>by
   by_cases e:i=k
   ·rw[e]at hp;grind
   ·exact h5 i (by omega) hp⟩
theorem Found.new{LO:List Value}(h:Found T s k row K ls)(hk:0<T.A k s)(hn:aT K LO (T.A k T.n/T.A k s))(hl:row = -1∨∀r:Nat,row=(r:Int)→T.A k T.n/T.A k s<T.A r T.n/T.A r s):Found T s (k+1) (k:Int) K LO:=by
 refine .inr ⟨k,rfl,by omega,hk,hn,fun i hi hp=> ?_⟩
 by_cases e:i=k
 ·rw[e];exact .inr ⟨rfl,Nat.le_refl _⟩
 ·rcases h with ⟨h1,h2⟩ | ⟨r,h1,h2,h3,h4,h5⟩
  ·have:=h2 i (by omega);grind
  ·have h6:T.A k T.n/T.A k s<T.A r T.n/T.A r s:=by
    rcases hl with hl | hl
    ·omega
    ·exact hl r h1
   rcases h5 i (by omega) hp with h7 | h7
   ·left;grind
   ·left;rw[←h7.1];exact h6
theorem Found.tie(h:Found T s k row K ls)(hk:0<T.A k s){r:Nat}(hr:row=(r:Int))(he:T.A k T.n/T.A k s=T.A r T.n/T.A r s)(hB:T.B k<T.B r):Found T s (k+1) (k:Int) K ls:=by
 rcases h with ⟨h1,h2⟩ | ⟨r',h1,h2,h3,h4,h5⟩
 ·omega
 ·obtain rfl:r'=r:=by omega
  refine .inr ⟨k,rfl,by omega,hk,by rw[he];exact h4,fun i hi hp=> ?_⟩
  by_cases e:i=k
  ·rw[e];exact .inr ⟨rfl,Nat.le_refl _⟩
  ·rcases h5 i (by omega) hp with h7 | h7
   ·left;rw[he];exact h7
   ·right;exact⟨by rw[he];exact h7.1,by omega⟩
theorem Found.stay(h:Found T s k row K ls)(hk:0<T.A k s){r:Nat}(hr:row=(r:Int))(he:T.A r T.n/T.A r s<T.A k T.n/T.A k s∨(T.A r T.n/T.A r s=T.A k T.n/T.A k s∧T.B r≤T.B k)):Found T s (k+1) row K ls:=by
 rcases h with ⟨h1,h2⟩ | ⟨r',h1,h2,h3,h4,h5⟩
 ·omega
 ·obtain rfl:r'=r:=by omega
  refine .inr ⟨r',h1,by omega,h3,h4,fun i hi hp=> ?_⟩
  by_cases e:i=k
  ·rw[e];exact he
  ·exact h5 i (by omega) hp
end
theorem LQ{H:Heap}{G:TG}{L:TL}{T0:al}{N:Nat}{I:al→Prop}(h:cB H G L T0)(hc:fg H G L T0)(hI:I T0)(LR:∀S r s,I S→S.oZ L.u r s→I (S.bM r s))(hinv:∀S,I S→S.WF∧S.iM∧Sz N S∧S.m=T0.m∧S.n=T0.n)
 (hN:(N:Int)≤137438953472) (hw:(L.w:Int)≤1000000) (hm:(T0.m:Int)≤1000000):
 Fn Tryz.prog 26 #[.pointer (some ⟨G.g,0,none⟩)] H (fun v H'=>∃T,I T∧cB H' G L T∧fg H' G L T∧Heap.le (rem H G.gs) (rem H' G.gs)∧((v = .int .i64 (-1)∧∀j,j<L.u→0≤T.c j)∨∃s:Nat,v = .int .i64 (s:Int)∧s<L.u∧T.c s<0∧∀i,i<T.m→T.A i s≤0)):=by
 have lA:=h.uw;refine aU (args:=[_]) Tryz.func26 rfl rfl Tryz.ntmps26 rfl rfl fun w0=> ?_;refine ah [0] rfl ?_;refine ae (aa 1 rfl (ab [0] ?_));refine aD (Jo (γ:=al) (al.Step L.u) (fun(T:al)=>put (emp) 0 (.val (.pointer (some ⟨G.g,0,none⟩)))) (fun(T:al) H'=>cB H' G L T∧fg H' G L T∧I T∧Heap.le (rem H G.gs) (rem H' G.gs)) (T0) ((by obtain⟨h1,h2,_⟩:=hinv T0 hI;exact al.Tt h1 h2 (by rw[h.n];exact lA))) av (⟨h,hc,hI,.refl _⟩) ?_);rintro T H1 ⟨h1,jC,yK,eL⟩;obtain⟨F4,F5,bZ,LS,Gu⟩:=hinv T yK;have UH:T.n=L.w:=h1.n
 have UI:(T.m:Int)≤1000000:=by rw[LS];exact hm
 refine aD (ae (aa 1 rfl (ab [0,3] ?_)));refine nH (fun(k:Nat)=>put (put (emp) 0 (.val (.pointer (some ⟨G.g,0,none⟩)))) 3 (.val (.int .i64 (k:Int)))) (fun(k:Nat) H'=>Kept G.gs H1 H'∧((k=L.u∧∀j,j<L.u→0≤T.c j)∨(k<L.u∧T.c k<0∧∀j,j<k→0≤T.c j))) ?_ ?_
 ·
  refine aD (gm (fun(k:Nat)=>L.u-k) (fun(k:Nat)=>put (put (emp) 0 (.val (.pointer (some ⟨G.g,0,none⟩)))) 3 (.val (.int .i64 (k:Int)))) (fun(k:Nat) H'=>Kept G.gs H1 H'∧k≤L.u∧∀j,j<k→0≤T.c j) 0 (⟨.refl _ _,Nat.zero_le _,fun j hj=>by omega⟩) av ?_);rintro k H2 ⟨gj,hku,nG⟩;have h2:=h1.kept gj;have lX:=jC.kept gj;refine ao ?_
  by_cases a8:k<L.u
  ·
   obtain⟨gc,cc,CW,rI,uc⟩:=id lX;obtain⟨xc,nc,dc,bc,o9,q3,yJ⟩:=uc.rd (dQ (show k<L.w+1 by omega))
   have gw:cell H2 ((⟨G.g,0,none⟩:Addr).add 7)=some (.slice (some ⟨gc,0,none⟩) (L.w+1) cc):=by rw[←rI];exact h2.cell rfl
   have CK:=bZ.c k (by omega);refine ae (aa 3 rfl (aX ag rfl rfl rfl (aP ag rfl rfl rfl (h2.cell rfl) (ax true rfl rfl (mP (by omega)) (aa 3 rfl (aX ag rfl rfl rfl (aP ag rfl rfl rfl (gw) (aa 1 rfl (cQ (vs:=[.int .i64 nc,.int .i64 dc,.pointer bc]) ag rfl rfl rfl rfl o9 rfl (by decide) yJ (by omega) (by omega) fun _=>(aq rfl rfl (Fn.m0 h2.ne (fq q3 (by omega))) ?_))))))))));rintro v3 H3 ⟨dh,dH,rfl⟩;refine aa 2 rfl (ab [0,3,25] ?_);refine az rfl (fun hb=> ?_) (fun hb=> ?_)
   ·
    have hb:0≤T.c k:=mc.1 (by simpa using hb);refine aw (ah [0,3] rfl ?_);refine aD (aB rfl (aa 1 rfl (aJ rfl rfl ⟨by omega,by omega⟩ (aa 1 rfl (ay ?_)))));exact⟨k+1,by omega,av,gj.trans dh,by omega,fun j hj=>by by_cases e:j=k;(rw[e];exact hb);exact nG j (by omega)⟩
   have hb:T.c k<0:=wk.1 (by simpa using hb);refine bA ?_;exact⟨k,av,gj.trans dh,.inr ⟨a8,hb,nG⟩⟩
  ·
   skip
   refine ae (aa 3 rfl (aX ag rfl rfl rfl (aP ag rfl rfl rfl (h2.cell rfl) (ax false rfl rfl (jx (by omega)) (aa 11 rfl (ab [0,3,25] ?_))))));refine cP rfl (bA ?_);exact⟨k,av,gj,.inl ⟨by omega,fun j hj=>nG j (by omega)⟩⟩
 ·
  rintro k H3 ⟨dh,LU⟩;have h3:=h1.kept dh;have oV:=jC.kept dh;refine ao (ae (aa 3 rfl (aX ag rfl rfl rfl (aP ag rfl rfl rfl (h3.cell rfl) (aa 1 rfl (ab [0,3,33] ?_))))));refine az rfl (fun hb=> ?_) (fun hb=> ?_)
  ·
   have hb:k=L.u:=by simp at hb;omega
   have xA:∀j,j<L.u→0≤T.c j:=by
    rcases LU with h5 | h5
    ·exact h5.2
    ·omega
   refine ae (aa 1 rfl (ab [2] ?_));refine ar ⟨.inr rfl,_,.tmp rfl (.nil),?_⟩;exact⟨T,yK,h3,oV,eL.trans dh.le,.inl ⟨rfl,xA⟩⟩
  have hb:k≠L.u:=by simp at hb;omega
  obtain⟨a8,fO,nG⟩:k<L.u∧T.c k<0∧∀j,j<k→0≤T.c j:=by
   rcases LU with h5 | h5
   ·omega
   ·exact h5
  refine aw (ah [0,3] rfl ?_);refine ae (aa 1 rfl (ab [0,3,4] ?_));refine ae (bG cN rfl (ab [0,3,4,5] ?_));refine ao (ae (aa 2 rfl (aX ag rfl rfl rfl (aP ag rfl rfl rfl (h3.cell rfl) (aa 2 rfl (ab [0,3,4,5,37,38,39] ?_))))));refine aD (ju (fun(q:Nat)(row:Int)(ls:Int×Int×Option Addr)=>T.m-q) (fun(q:Nat)(row:Int)(ls:Int×Int×Option Addr)=>put (put (put (put (put (put (put (emp) 0 (.val (.pointer (some ⟨G.g,0,none⟩)))) 3 (.val (.int .i64 (k:Int)))) 4 (.val (.int .i64 row))) 5 (.box [.int .i64 ls.1,.int .i64 ls.2.1,.pointer ls.2.2])) 37 (.val (.slice G.Ar T.m G.cr))) 38 (.val (.int .i64 (T.m:Int)))) 39 (.val (.int .i64 (q:Int)))) (fun(q:Nat)(row:Int)(ls:Int×Int×Option Addr) H'=>Kept G.gs H3 H'∧q≤T.m∧Found T k q row (rem H' G.gs) [.int .i64 ls.1,.int .i64 ls.2.1,.pointer ls.2.2]) 0 (-1) (0,0,none) (⟨.refl _ _,Nat.zero_le _,.inl ⟨rfl,fun i hi=>by omega⟩⟩) av ?_);rintro q row ls H4 ⟨dM,EU,yL⟩;have h4:=h3.kept dM;refine ae (aa 1 rfl (ab [0,3,4,5,37,38,39,40] ?_));refine ao (az rfl (fun hb=> ?_) (fun hb=> ?_))
  ·
   have CY:q<T.m:=by simpa using hb
   obtain⟨pq,jw⟩:=h1.get CY;obtain⟨UF,Gq,lk⟩:=h4.rows;obtain⟨xk,nk,dk,bk,CU,yH,CV⟩:=(h4.row q pq jw).rd (dQ (show k<L.w+1 by omega));obtain⟨xw,nw,dw,bw,yM,k9,yN⟩:=(h4.row q pq jw).rd (dQ (show L.w<L.w+1 by omega));have CK:=bZ.A q CY k (by omega);have gJ:=bZ.A q CY L.w (by omega);refine aw (ah [0,3,4,5,37,38,39] rfl ?_);refine ao (aD (ae (aa 1 rfl (a5 ag rfl rfl rfl rfl rfl (Gq.le (bE _ _)) (by rw[Int.toNat_natCast];exact lk q pq jw) (by omega) (by omega) fun _=> ?_))));refine aa 2 rfl (ab [0,3,4,5,6,7,37,38,39] ?_);refine ao (ae (aa 2 rfl (cQ (vs:=[.int .i64 nk,.int .i64 dk,.pointer bk]) ag rfl rfl rfl rfl CU rfl (by decide) (by rw[Int.toNat_natCast];exact CV) (by omega) (by omega) fun _=> ?_)));refine aq rfl rfl (Fn.m0 h4.ne (fq yH (by omega))) ?_;rintro v5 H5 ⟨iq,cU,rfl⟩;have h5:=h4.kept iq;refine aa 1 rfl (ab [0,3,4,5,6,7,37,38,39,49] ?_);refine az rfl (fun hb=> ?_) (fun hb=> ?_)
   ·
    have hb:T.A q k≤0:=pa.1 (by simpa using hb);refine bA (ah [0,3,4,5,37,38,39] rfl ?_);refine aB rfl (aJ rfl rfl ⟨by omega,by omega⟩ (aa 1 rfl (ay ?_)));exact⟨q+1,row,ls,by omega,av,dM.trans iq,by omega,(yL.le iq.le).skip hb⟩
   have qc:0<T.A q k:=by
    have:¬eE (T.A q k)≤0:=by simpa using hb
    rw[pa]at this;grind
   refine aw (ah [0,3,4,5,6,7,37,38,39] rfl ?_);refine bT .bN [0,1,2,3,4,5,6,7,8,9,10,11,12,13] follows (by kernel_rfl) ?_;refine aa 3 rfl (aX ag rfl rfl rfl (aP ag rfl rfl rfl (h5.wj) (cQ (vs:=[.int .i64 nw,.int .i64 dw,.pointer bw]) ag rfl rfl rfl rfl (yM.le cU) rfl (by decide) (by rw[Int.toNat_natCast];exact yN) (by omega) (by omega) fun _=> ?_)));refine aa 2 rfl (cQ (vs:=[.int .i64 nk,.int .i64 dk,.pointer bk]) ag rfl rfl rfl rfl (CU.le cU) rfl (by decide) (by rw[Int.toNat_natCast];exact CV) (by omega) (by omega) fun _=> ?_);refine aI rfl rfl (Fn.fw h5.ne (Lq (N:=N) (k9.le iq.le) (yH.le iq.le) gJ CK (by omega) (by grind))) (fun _ _ h=>by first | exact h.le | exact h.1) ?_;rintro v6 H6 ⟨pb,gg,nq,dq,bq,rfl,Gv⟩;have h6:=h5.kept pb;have UJ:=Gt (T.A q L.w) (T.A q k);rw[←UH]at Gv UJ gJ;have LV:=(yL.le iq.le).le pb.le;refine bG cN rfl ?_;obtain⟨ti,aj,ak⟩:=a9;refine aO (.inl ⟨rfl,rfl⟩) rfl rfl rfl aj ak rfl rfl rfl (ab [0,3,4,5,6,8,37,38,39] ?_);refine aD (nH (fun(bz:Bool)=>put (put (put (put (put (put (put (put (put (put (emp) 0 (.val (.pointer (some ⟨G.g,0,none⟩)))) 3 (.val (.int .i64 (k:Int)))) 4 (.val (.int .i64 row))) 5 (.box [.int .i64 ls.1,.int .i64 ls.2.1,.pointer ls.2.2])) 6 (.val (.int .i64 (q:Int)))) 8 (.box [.int .i64 nq,.int .i64 dq,.pointer bq])) 37 (.val (.slice G.Ar T.m G.cr))) 38 (.val (.int .i64 (T.m:Int)))) 39 (.val (.int .i64 (q:Int)))) 62 (.val (.bool bz))) (fun(bz:Bool) H'=>Kept G.gs H6 H'∧(bz=true→row = -1∨∀r:Nat,row=(r:Int)→T.A q T.n/T.A q k<T.A r T.n/T.A r k)∧(bz=false→∃r:Nat,row=(r:Int)∧r<q∧¬T.A q T.n/T.A q k<T.A r T.n/T.A r k)) ?_ ?_)
   ·
    refine ae (aa 3 rfl (ab [0,3,4,5,6,8,37,38,39,62] ?_));refine az rfl (fun hb=> ?_) (fun hb=> ?_)
    ·
     have gK:row<0:=by simpa using hb
     refine aw ?_;exact⟨_,av,.refl _ _,fun _=> .inl (by rcases yL with hx | hx;exact hx.1;obtain⟨r,hr,_⟩:=hx;omega),fun e=>by rw[hb]at e;cases e⟩
    have gK:¬row<0:=by simpa using hb
    obtain⟨r1,wm,LW,UK,wo,_⟩:∃r:Nat,row=(r:Int)∧r<q∧0<T.A r k∧aT (rem H6 G.gs) [.int .i64 ls.1,.int .i64 ls.2.1,.pointer ls.2.2] (T.A r T.n/T.A r k)∧True:=by
     rcases LV with hx | ⟨r,h1,h2,h3,h4,_⟩
     ·omega
     ·exact⟨r,h1,h2,h3,h4,trivial⟩
    have Gw:=Gt (T.A r1 T.n) (T.A r1 k);have ld:=bZ.A r1 (by omega) T.n (by omega);have fN:=bZ.A r1 (by omega) k (by omega);refine aB rfl (aa 2 rfl (aq rfl rfl (Fn.fw h6.ne (o3 (N:=2*N) Gv wo (by omega) (by omega) (by omega))) ?_));rintro va Ha ⟨j3,fJ,na,da,ba,rfl,rG⟩;have UL:=l5 (T.A q T.n/T.A q k) (T.A r1 T.n/T.A r1 k);refine aq rfl rfl (Fn.m0 (j3.ne h6.ne) (fq rG (by omega))) ?_;rintro vb Hb ⟨me,eh,rfl⟩;refine aa 2 rfl (ay ?_);exact⟨_,av,j3.trans me,fun e=> .inr fun r hr=>(by have:=wk.1 (of_decide_eq_true e);obtain rfl:r=r1:=(by omega);grind),fun e=>⟨r1,wm,LW,fun a8=>of_decide_eq_false e (wk.2 (by grind))⟩⟩
   rintro bz H7 ⟨lB,e8,gK⟩;have h7:=h6.kept lB;have CZ:=((dM.trans iq).trans pb).trans lB;have yO:=LV.le lB.le;have Gx:=Gv.le lB.le;refine az rfl (fun hb=> ?_) (fun hb=> ?_)
   ·
    skip
    refine fk .bN [0,1,2,3] follows (by kernel_rfl) ?_;refine vr 3 ?_;obtain⟨ti,aj,ak⟩:=a9;refine aO (.inl ⟨rfl,rfl⟩) rfl rfl rfl aj ak rfl rfl rfl (ay (ah [0,3,4,5,37,38,39] rfl ?_));refine aB rfl (aJ rfl rfl ⟨by omega,by omega⟩ (aa 1 rfl (ay ?_)));exact⟨q+1,(q:Int),(nq,dq,bq),by omega,av,CZ,by omega,yO.new qc Gx (e8 hb)⟩
   obtain⟨r1,wm,LW,aap⟩:=gK hb
   obtain⟨UK,wo⟩:0<T.A r1 k∧aT (rem H7 G.gs) [.int .i64 ls.1,.int .i64 ls.2.1,.pointer ls.2.2] (T.A r1 T.n/T.A r1 k):=by
    rcases yO with hx | ⟨r,h1,h2,h3,h4,_⟩
    ·omega
    ·
     obtain rfl:r=r1:=by omega
     exact⟨h3,h4⟩
   have Gw:=Gt (T.A r1 T.n) (T.A r1 k);have ld:=bZ.A r1 (by omega) T.n (by omega);have fN:=bZ.A r1 (by omega) k (by omega);have UL:=l5 (T.A q T.n/T.A q k) (T.A r1 T.n/T.A r1 k)
   obtain⟨gb,cb,sz,tK,iw,bO⟩:∃gb cb sz,G.bb = [gb]∧G.bv = .slice (some ⟨gb,0,none⟩) T.m cb∧H7 gb=some ⟨hP T.B T.m,sz,3,true⟩:=by
    rcases h7.basis with h8 | h8
    ·
     have:=h8.1
     omega
    ·exact h8
   have CX:gb∈G.gs:=TG.qm (by rw[tK];exact List.mem_singleton.2 rfl)
   by_cases heq:T.A q T.n/T.A q k=T.A r1 T.n/T.A r1 k
   ·
    skip
    refine bT .bN [0,1,2,3,4,5,6,7,8,9,10,11,12,13,14,15,16,17,18,19,20,21,22] follows (by kernel_rfl) ?_;refine aa 2 rfl (aI rfl rfl (Fn.fw h7.ne (o3 (N:=2*N) Gx wo (by omega) (by omega) (by omega))) (fun _ _ h=>by first | exact h.le | exact h.1) ?_);rintro va Ha ⟨j3,fJ,na,da,ba,rfl,rG⟩;refine aI rfl rfl (Fn.m0 (j3.ne h7.ne) (fq rG (by omega))) (fun _ _ h=>by first | exact h.le | exact h.1) ?_;rintro vb Hb ⟨me,eh,rfl⟩;have h8:=(h7.kept j3).kept me
    have gG:cell Hb ((⟨G.g,0,none⟩:Addr).add 8)=some (.slice (some ⟨gb,0,none⟩) T.m cb):=by rw[←iw];exact h8.cell rfl
    have oR:Rd Hb (some ⟨gb,0,none⟩) (hP T.B T.m):=nY (by rw[me.same gb CX,j3.same gb CX];exact bO);refine ax true rfl rfl (eQ (j2.2 (by rw[heq];grind))) ?_;refine aa 3 rfl (aX ag rfl rfl rfl (aP ag rfl rfl rfl (gG) (aa 1 rfl (a5 ag rfl rfl rfl rfl rfl (oR) (by rw[Int.toNat_natCast];exact ql CY) (by omega) (by omega) fun _=> ?_))));refine aa 2 rfl (aX ag rfl rfl rfl (aP ag rfl rfl rfl (gG) (aa 1 rfl (a5 ag rfl rfl rfl rfl rfl (oR) (by rw[wm,Int.toNat_natCast];exact ql (by omega)) (by omega) (by omega) fun _=> ?_))));refine aa 3 rfl (ab [0,3,4,5,6,37,38,39,72] ?_);refine az rfl (fun hb=> ?_) (fun hb=> ?_)
    ·
     have hB:T.B q<T.B r1:=by simp at hb;omega
     refine aB rfl (aa 2 rfl (ay (ah [0,3,4,5,37,38,39] rfl ?_)));refine aB rfl (aJ rfl rfl ⟨by omega,by omega⟩ (aa 1 rfl (ay ?_)));exact⟨q+1,(q:Int),ls,by omega,av,(CZ.trans j3).trans me,by omega,((yO.le j3.le).le me.le).tie qc wm heq hB⟩
    have hB:T.B r1≤T.B q:=by simp at hb;omega
    refine aw (ah [0,3,4,5,37,38,39] rfl ?_);refine aB rfl (aJ rfl rfl ⟨by omega,by omega⟩ (aa 1 rfl (ay ?_)));exact⟨q+1,row,ls,by omega,av,(CZ.trans j3).trans me,by omega,((yO.le j3.le).le me.le).stay qc wm (.inr ⟨heq.symm,hB⟩)⟩
   skip
   refine bT .bN [0,1,2,3,4,5,6,7,8,9,10,11,12,13,14,15,16,17,18,19,20,21,22] follows (by kernel_rfl) ?_;refine aa 2 rfl (aI rfl rfl (Fn.fw h7.ne (o3 (N:=2*N) Gx wo (by omega) (by omega) (by omega))) (fun _ _ h=>by first | exact h.le | exact h.1) ?_);rintro va Ha ⟨j3,fJ,na,da,ba,rfl,rG⟩;refine aI rfl rfl (Fn.m0 (j3.ne h7.ne) (fq rG (by omega))) (fun _ _ h=>by first | exact h.le | exact h.1) ?_;rintro vb Hb ⟨me,eh,rfl⟩;refine ax false rfl rfl (fX (fun e=>heq (by have:=j2.1 e;grind))) ?_;refine aa 18 rfl (ab [0,3,4,5,6,37,38,39,72] ?_);refine cP rfl (aw (ah [0,3,4,5,37,38,39] rfl ?_));refine aB rfl (aJ rfl rfl ⟨by omega,by omega⟩ (aa 1 rfl (ay ?_)));exact⟨q+1,row,ls,by omega,av,(CZ.trans j3).trans me,by omega,((yO.le j3.le).le me.le).stay qc wm (.inl (by grind))⟩
  have hb:T.m≤q:=by simpa using hb
  obtain rfl:q=T.m:=by omega
  have LX:=dh.trans dM;refine bA (ah [0,3,4] rfl ?_);refine ao (ae (aa 2 rfl (ab [0,3,4,98] ?_)));refine az rfl (fun hb=> ?_) (fun hb=> ?_)
  ·
   have gK:row<0:=by simpa using hb
   have xA:∀i,i<T.m→T.A i k≤0:=by
    rcases yL with hx | ⟨r,hr,_⟩
    ·exact hx.2
    ·omega
   refine ae (aa 2 rfl (ab [2] ?_));refine ar ⟨.inr rfl,_,.tmp rfl (.nil),?_⟩;exact⟨T,yK,h4,oV.kept dM,eL.trans LX.le,.inr ⟨k,rfl,a8,fO,xA⟩⟩
  have gK:¬row<0:=by simpa using hb
  obtain⟨rr,yF,mf,eH,m5⟩:∃r:Nat,row=(r:Int)∧r<T.m∧0<T.A r k∧∀i,i<T.m→0<T.A i k→T.A r T.n/T.A r k<T.A i T.n/T.A i k∨(T.A r T.n/T.A r k=T.A i T.n/T.A i k∧T.B r≤T.B i):=by
   rcases yL with hx | ⟨r,h1,h2,h3,_,h5⟩
   ·omega
   ·exact⟨r,h1,h2,h3,h5⟩
  have ku:T.oZ L.u rr k:=⟨a8,fO,nG,mf,eH,m5⟩;obtain⟨_,_,UM,_,_⟩:=hinv _ (LR _ _ _ yK ku);refine aw (ah [0,3,4] rfl ?_);refine aB rfl (aa 3 rfl (aq rfl rfl (by rw[yF];exact LM (N:=N) h4 (oV.kept dM) mf (by omega) (by grind) bZ UM (by omega) hw UI) ?_));rintro v9 H9 ⟨h9,Gy,yP⟩;refine ay ?_;exact⟨T.bM rr k,⟨rr,k,ku,rfl⟩,av,h9,Gy,LR _ _ _ yK ku,(eL.trans LX.le).trans yP⟩
end Go.au
namespace Go.au
open Go.Proofs Num Lp
structure yQ(K H:Heap)(G:TG)(L:TL)(T:al):Prop where
 kh:Heap.le K H
 cell:∀(k:Nat)(v:Value),(G.cells L.w L.u T.m)[k]? = some v→au.cell H ((⟨G.g,0,none⟩:Addr).add k)=some v
 rows:∃xs,Rd H G.Ar xs∧∀i,i<T.m→∃p:Nat×Nat,xs[i]? = some (.slice (some ⟨p.1,0,none⟩) (L.w+1) p.2)∧im K H p.1 (aH (T.A i) (L.w+1))
 basis:T.m=0∨∃gb cb,G.bv = .slice (some ⟨gb,0,none⟩) T.m cb∧Rd H (some ⟨gb,0,none⟩) (hP T.B T.m)
 LY:T.m=0→∃A c,G.bv = .slice A 0 c
 plus:aM o7 1 H G.pv L.plus
 minus:aM o6 1 H G.mv L.minus
 gF:aM o7 1 H G.uv L.gF
 gu:aM aT 3 K G.sv L.gu
theorem cB.w{H0 K H:Heap}{G:TG}{L:TL}{T:al}(h:cB H0 G L T)(hle:Heap.le (rem H0 G.gs) K)(hk:Heap.le K H)(hs:∀q,q∈G.gs→H q=H0 q):yQ K H G L T where
 kh:=hk
 cell:=fun k v hv=>by
  have:=hs _ G.m6
  simp[au.cell,iJ,this,h.st,hv]
 rows:=by
  obtain⟨xs,h1,h2⟩:=h.rows
  refine⟨xs,h1.le (hle.trans hk),fun i hi=> ?_⟩
  obtain⟨p,hp⟩:=h.get hi
  exact⟨p,h2 i p hp,(h.row i p hp).le hle (hs _ (TG.lz hp))⟩
 basis:=by
  rcases h.basis with h1 | ⟨gb,cb,sz,h1,h2,h3⟩
  ·exact .inl h1.1
  ·exact .inr ⟨gb,cb,h2,nY (by rw[hs _ (TG.qm (by rw[h1];exact List.mem_singleton.2 rfl))];exact h3)⟩
 LY:=fun hm=>by
  rcases h.basis with h1 | ⟨gb,cb,sz,h1,h2,h3⟩
  ·exact⟨none,0,h1.2.2⟩
  ·exact⟨_,cb,by rw[h2,hm]⟩
 plus:=(h.plus.le jn hle).le jn hk
 minus:=(h.minus.le o8 hle).le o8 hk
 gF:=(h.gF.le jn hle).le jn hk
 gu:=h.gu.le dT hle
theorem cB.self{H:Heap}{G:TG}{L:TL}{T:al}(h:cB H G L T):yQ (rem H G.gs) H G L T:=h.w (.refl _) (bE _ _) (fun _ _=>rfl)
theorem yQ.bv{K H:Heap}{G:TG}{L:TL}{T:al}(h:yQ K H G L T):∃A c,G.bv = .slice A T.m c∧Rd H A (hP T.B T.m):=by
 rcases h.basis with h1 | ⟨gb,cb,h1,h2⟩
 ·obtain⟨A,c,h2⟩:=h.LY h1
  refine⟨A,c,by rw[h1];exact h2,fun i v hv=> ?_⟩
  rw[h1]at hv
  simp[hP]at hv
 ·exact⟨_,cb,h1,h2⟩
theorem aM.one{α:Type}{P:Heap→List Value→α→Prop}{H:Heap}{v:Value}{l:List α}(h:aM P 1 H v l):∃A c xs,v = .slice A l.length c∧Rd H A xs∧∀(i:Nat)(a:α),l[i]? = some a→∃u,xs[i]? = some u∧P H [u] a:=by
 obtain⟨A,c,xs,h1,_,h3,h4⟩:=h
 exact⟨A,c,xs,h1,h3,fun i a ha=>h4.one ha⟩
theorem aM.num{H:Heap}{v:Value}{l:List Rat}(h:aM aT 3 H v l):∃A c xs,v = .slice A l.length c∧Rd H A xs∧∀(i:Nat)(q:Rat),l[i]? = some q→∃n d b,aT H [.int .i64 n,.int .i64 d,.pointer b] q∧∀(j:Nat)(u:Value),[.int .i64 n,.int .i64 d,.pointer b][j]? = some u→xs[i*3+j]? = some u:=by
 obtain⟨A,c,xs,h1,_,h3,h4⟩:=h
 refine⟨A,c,xs,h1,h3,fun i q hq=> ?_⟩
 obtain⟨vs,_,h5,h6⟩:=h4.get hq
 obtain⟨n,d,b,rfl⟩:=h5.cells
 exact⟨n,d,b,h5,h6⟩
structure c7(gs:List Nat)(H0 H:Heap)(z:Nat)(xs:List Value)(sz e:Nat):Prop where
 a6:H z=some ⟨xs,sz,e,true⟩
 zn:H0 z=none
 zg:¬z∈gs
 le:Heap.le (rem H0 gs) (rem H (z::gs))
 same:∀q,q∈gs→H q=H0 q
section
variable {gs:List Nat} {H0 H H':Heap} {z:Nat} {xs lJ:List Value} {sz e:Nat}
theorem c7.new(hn:∀q,q∈gs→H0 q≠none)(hz:H0 z=none):c7 gs H0 (ins H0 z ⟨xs,sz,e,true⟩) z xs sz e:=
 ⟨bn _ _ _,hz,fun h=>hn z h hz,by rw[tG _ hz];exact .refl _,fun q hq=>bD _ _ (fun e=>hn q hq (by rw[e];exact hz))⟩
theorem c7.ne(h:c7 gs H0 H z xs sz e)(hn:∀q,q∈gs→H0 q≠none):∀q,q∈z::gs→H q≠none:=fun q hq=>by
 rcases List.mem_cons.1 hq with rfl | hq
 ·rw[h.a6];simp
 ·rw[h.same q hq];exact hn q hq
theorem c7.kept(h:c7 gs H0 H z xs sz e)(k:Kept (z::gs) H H'):c7 gs H0 H' z xs sz e:=
 ⟨by rw[k.same z (List.mem_cons_self ..)];exact h.a6,h.zn,h.zg,h.le.trans k.le,fun q hq=>(k.same q (List.mem_cons_of_mem _ hq)).trans (h.same q hq)⟩
theorem c7.set(h:c7 gs H0 H z xs sz e){en:aG}(he:en=⟨lJ,sz,e,true⟩):c7 gs H0 (ins H z en) z lJ sz e:=
 ⟨by rw[bn,he],h.zn,h.zg,by rw[bY _ (List.mem_cons_self ..)];exact h.le,fun q hq=>by rw[bD _ _ (fun(e':q=z)=>h.zg (by rw[←e'];exact hq))];exact h.same q hq⟩
theorem c7.hle(h:c7 gs H0 H z xs sz e):Heap.le H0 H:=fun g en hg=>by
 by_cases hm:g∈gs
 ·exact⟨en,by rw[h.same g hm];exact hg,.refl en⟩
 ·obtain⟨e',h1,h2⟩:=h.le g en (by rw[bK hm];exact hg)
  obtain⟨Es,h3,h4⟩:=bE H (z::gs) g e' h1
  exact⟨Es,h3,h2.trans h4⟩
theorem c7.done(h:c7 gs H0 H z xs sz e):Kept gs H0 H∧Heap.le (rem H (z::gs)) (rem H gs):=⟨⟨h.le.trans (KH H z gs),h.same⟩,KH H z gs⟩
theorem c7.rd(h:c7 gs H0 H z xs sz e):Rd (rem H gs) (some ⟨z,0,none⟩) xs:=fun i v hv=>⟨_,rfl,by simp[au.cell,iJ,bK h.zg,h.a6,hv]⟩
theorem c7.tab{H:Heap}{G:TG}{L:TL}{T:al}(ht:cB H0 G L T)(h:c7 G.gs H0 H z xs sz e):yQ (rem H (z::G.gs)) H G L T:=ht.w h.le (bE _ _) h.same
end
structure wq{α:Type}(P:Heap→List Value→α→Prop)(s:Nat)(gs:List Nat)(H:Heap)(l:List α)(v:Value)(H':Heap):Prop where
 kept:Kept gs H H'
 le:Heap.le H H'
 val:aM P s (rem H' gs) v l
theorem Fn.C0{α:Type}{P:Heap→List Value→α→Prop}{s:Nat}{Q:Program}{f:FuncId}{args:Array Value}{H:Heap}{gs:List Nat}{l:List α}(oW:∀g,g∈gs→H g≠none)(h:Fn Q f args (rem H gs) (CH P s (rem H gs) l)):Fn Q f args H (wq P s gs H l):=
 (Fn.frame oW h).mono fun v H' hf=>⟨.of hf fun v K hp=>hp.1,hf.le fun v K hp=>hp.1,hf.post.2⟩
structure UN(gs:List Nat)(H:Heap)(n:Nat)(v:Value)(H':Heap):Prop where
 le:Heap.le H H'
 val:∃z xs,v = .slice (some ⟨z,0,none⟩) n n∧c7 gs H H' z xs (n*3) 61∧∀K:Heap,bF (aT K) 3 xs (aH (fun _=>0) n)
theorem UO(n:Nat):aH (fun _=>0) n=List.replicate n 0:=by
 apply List.ext_getElem?
 intro i
 by_cases h:i<n
 ·rw[dQ h,List.getElem?_replicate,if_pos h]
 ·rw[List.getElem?_eq_none (by rw[bV];omega),List.getElem?_eq_none (by rw[List.length_replicate];omega)]
theorem wu{H:Heap}{gs:List Nat}(oW:∀g,g∈gs→H g≠none){n:Nat}(hn:(n:Int)≤8796093022208):Fn Tryz.prog 31 #[.int .i64 (n:Int)] H (UN gs H n):=
 (T1 hn).mono fun v H' ⟨g,xs,h1,h2,h3,h4⟩=>by
  rw[List.length_replicate]at h2 h3
  refine⟨by rw[h3];exact Heap.bh _ h1,g,xs,h2,by rw[h3];exact .new oW h1,fun K=>by rw[UO];exact h4 K⟩
def dU(f:Nat→Rat)(k:Nat)(q:Rat)(j:Nat):Rat:=if j=k then q else f j
theorem UP{f:Nat→Rat}{n k:Nat}{q:Rat}:(aH f n).set k q=aH (dU f k q) n:=by
 apply List.ext_getElem?
 intro j
 by_cases hj:j<n
 ·by_cases e:j=k
  ·subst e
   rw[List.getElem?_set_self (by rw[bV];exact hj),dQ hj];simp[dU]
  ·rw[List.getElem?_set_ne (fun e'=>e e'.symm),dQ hj,dQ hj];simp[dU,e]
 ·rw[List.getElem?_eq_none (by rw[List.length_set,bV];omega),List.getElem?_eq_none (by rw[bV];omega)]
theorem m8{K:Heap}{xs vs:List Value}{f:Nat→Rat}{n k:Nat}{q:Rat}(h:bF (aT K) 3 xs (aH f n))(hk:k<n)(hv:aT K vs q):bF (aT K) 3 (aA xs (k*3) vs) (aH (dU f k q) n):=by
 rw[←UP];exact h.set (by rw[bV];exact hk) hv hv.len
theorem j4{xs vs:List Value}{s e k sz:Nat}:({(⟨xs,s,e,true⟩:aG)with xs:=aA xs (0+k*sz) vs}:aG)=⟨aA xs (k*sz) vs,s,e,true⟩:=by rw[Nat.zero_add]
end Go.au
