/- Part 8 of the proof: Lay1, Mz, Mz2. -/
import Derived.Test.YtfjncmjbhfdnpaaGreatA07
set_option linter.unusedVariables false
namespace Go.aw
open Go.Proofs Num Lp
theorem jI(f:Nat→Rat)(k:Nat)(v:Rat):bY f k v k=v:=by simp[bY]
theorem eI{f:Nat→Rat}{k j:Nat}{v:Rat}(h:j≠k):bY f k v j=f j:=by simp[bY,h]
section
variable {p:Prg}
theorem Ex{a:Nat→Rat}{sg:Rat}{k x:Nat}(hk:k≤p.lp.n)(hx:aX p.lp.free k≤x):kj p.lay a sg k x=0:=by
 induction k with
 | zero=>rfl
 | succ k ih=>
  have h1:aX p.lp.free (k+1)=aX p.lp.free k+1+(if p.lp.free k then 1 else 0):=rfl
  rw[B0,zB p (by omega),Ie p (by omega)]
  unfold mV
  by_cases hf:p.lp.free k=true
  ·rw[if_pos hf]at h1
   rw[if_pos hf,if_pos (by omega),eI (by rw[Int.toNat_natCast];omega),eI (by omega)]
   exact ih (by omega) (by omega)
  ·rw[if_neg hf]at h1
   rw[if_neg hf,if_neg (by omega),eI (by omega)]
   exact ih (by omega) (by omega)
theorem Ey{a:Nat→Rat}{sg:Rat}{k j:Nat}(hk:k≤p.lp.n)(hj:j<k):kj p.lay a sg k (aX p.lp.free j)=a j*sg∧(p.lp.free j=true→kj p.lay a sg k (aX p.lp.free j+1) = -(a j*sg)):=by
 induction k with
 | zero=>omega
 | succ k ih=>
  rw[B0,zB p (by omega),Ie p (by omega)]
  unfold mV
  by_cases e:j=k
  ·subst e
   by_cases hf:p.lp.free j=true
   ·rw[if_pos hf,if_pos (by omega),Int.toNat_natCast]
    refine⟨?_,fun _=>jI _ _ _⟩
    rw[eI (by omega),jI]
   ·rw[if_neg hf,if_neg (by omega),jI]
    exact⟨rfl,fun h=>absurd h hf⟩
  ·have hm:=B6 (fr:=p.lp.free) (show j<k by omega)
   have uZ:=ih (by omega) (by omega)
   by_cases hf:p.lp.free k=true
   ·rw[if_pos hf,if_pos (by omega),Int.toNat_natCast]
    refine⟨?_,fun h=> ?_⟩
    ·rw[eI (by omega),eI (by omega)];exact uZ.1
    ·rw[if_pos h]at hm
     rw[eI (by omega),eI (by omega)];exact uZ.2 h
   ·rw[if_neg hf,if_neg (by omega)]
    refine⟨?_,fun h=> ?_⟩
    ·rw[eI (by omega)];exact uZ.1
    ·rw[if_pos h]at hm
     rw[eI (by omega)];exact uZ.2 h
theorem Mb{i:Nat}:p.c1≤p.unit i:=by
 show _≤q6 _ _ _ _ _
 unfold q6
 split
 ·exact(sI _ _ _).2
 ·exact Nat.le_trans (mr p) (tW _ _ _ _).2
theorem Ez{i:Nat}(h:fe (p.lp.rel i) (p.aK i)=true):(p.lp.rel i=1∧p.aK i=1)∨(p.lp.rel i=3∧p.aK i = -1):=by
 unfold fe at h
 rwa [decide_eq_true_eq]at h
theorem zC{i:Nat}(h:fe (p.lp.rel i) (p.aK i)=true):p.unit i=bD p.lp.rel p.c1 i:=by
 show q6 _ _ _ _ _=_;unfold q6;rw[if_pos h]
theorem vK{i:Nat}(h:¬fe (p.lp.rel i) (p.aK i)=true):p.unit i=aY p.lp.rel p.aK p.u i:=by
 show q6 _ _ _ _ _=_;unfold q6;rw[if_neg h]
theorem Q9{rel:Nat→Int}{c i q:Nat}(hi:rel i≠2)(hq:rel q≠2)(h:q≠i):bD rel c q≠bD rel c i:=by
 rcases Nat.lt_or_gt_of_ne h with h | h
 ·have:=QS (rel:=rel) (c:=c) h
  rw[if_neg hq]at this;omega
 ·have:=QS (rel:=rel) (c:=c) h
  rw[if_neg hi]at this;omega
theorem Ca{i:Nat}(hi:i<p.lp.m)(hr:p.lp.rel i≠2):bD p.lp.rel p.c1 i<p.u:=by
 have:=Q8 p hi hr
 unfold eY at this
 rw[if_neg hr]at this
 omega
theorem ahi{i q:Nat}(hi:i<p.lp.m)(hq:q<p.lp.m)(h:q≠i):p.unit q≠p.unit i:=by
 by_cases oi:fe (p.lp.rel i) (p.aK i)=true
 ·have ri:p.lp.rel i≠2:=by have:=Ez oi;omega
  by_cases oq:fe (p.lp.rel q) (p.aK q)=true
  ·have rq:p.lp.rel q≠2:=by have:=Ez oq;omega
   rw[zC oi,zC oq];exact Q9 ri rq h
  ·rw[zC oi,vK oq]
   have:=Ca hi ri
   have:=(tW p.lp.rel p.aK p.u q).2
   omega
 ·by_cases oq:fe (p.lp.rel q) (p.aK q)=true
  ·have rq:p.lp.rel q≠2:=by have:=Ez oq;omega
   rw[vK oi,zC oq]
   have:=Ca hq rq
   have:=(tW p.lp.rel p.aK p.u i).2
   omega
  ·rw[vK oi,vK oq]
   rcases Nat.lt_or_gt_of_ne h with h | h
   ·have:=QT (rel:=p.lp.rel) (sg:=p.aK) (u:=p.u) h
    rw[if_neg oq]at this;omega
   ·have:=QT (rel:=p.lp.rel) (sg:=p.aK) (u:=p.u) h
    rw[if_neg oi]at this;omega
theorem YE{i q:Nat}(hi:i<p.lp.m)(ri:p.lp.rel i≠2)(h:q≠i):p.unit q≠bD p.lp.rel p.c1 i:=by
 by_cases oq:fe (p.lp.rel q) (p.aK q)=true
 ·have rq:p.lp.rel q≠2:=by have:=Ez oq;omega
  rw[zC oq];exact Q9 ri rq h
 ·rw[vK oq]
  have:=Ca hi ri
  have:=(tW p.lp.rel p.aK p.u q).2
  omega
theorem Cb(i:Nat):p.eh.A i=bY (bY (sB (kj p.lay (p.lp.a i) (p.aK i:Rat) p.lp.n) (p.lp.rel i) (eY p.lp.rel p.c1 i) (p.aK i:Rat)) (p.unit i) 1) p.w (p.lp.b i*(p.aK i:Rat)):=rfl
theorem EA{f:Nat→Rat}{rel slack:Int}{sg:Rat}{x:Nat}(h:rel≠2→x≠slack.toNat):sB f rel slack sg x=f x:=by
 unfold sB
 split
 ·exact eI (h (by omega))
 ·split
  ·exact eI (h (by omega))
  ·rfl
theorem Cc{i:Nat}(hr:p.lp.rel i≠2):(eY p.lp.rel p.c1 i).toNat=bD p.lp.rel p.c1 i:=by
 unfold eY;rw[if_neg hr,Int.toNat_natCast]
theorem Ra{i x:Nat}(hx:x<p.c1):p.eh.A i x=kj p.lay (p.lp.a i) (p.aK i:Rat) p.lp.n x:=by
 have h1:=mr p
 have h2:=fp p
 have h3:=Mb (p:=p) (i:=i)
 rw[Cb,eI (by omega),eI (by omega),EA]
 intro hr
 rw[Cc hr]
 have:=(sI p.lp.rel p.c1 i).2
 omega
theorem ahj{i j:Nat}(hj:j<p.lp.n):p.eh.A i (aX p.lp.free j)=p.lp.a i j*(p.aK i:Rat):=by
 rw[Ra (Ig p hj)];exact(Ey (Nat.le_refl _) hj).1
theorem ahk{i j:Nat}(hj:j<p.lp.n)(hf:p.lp.free j=true):p.eh.A i (aX p.lp.free j+1) = -(p.lp.a i j*(p.aK i:Rat)):=by
 have:=Ew p hj
 unfold mV at this
 rw[if_pos hf]at this
 rw[Ra (by omega)];exact(Ey (Nat.le_refl _) hj).2 hf
theorem ahl{i q:Nat}(hi:i<p.lp.m)(hv:p.lp.rel i=1∨p.lp.rel i=3):p.eh.A q (bD p.lp.rel p.c1 i)=if q=i then(if p.lp.rel i=1 then(p.aK i:Rat)else -(p.aK i:Rat))else 0:=by
 have hr:p.lp.rel i≠2:=by omega
 have h1:=Ca hi hr
 have h2:=fp p
 have h3:=(sI p.lp.rel p.c1 i).2
 rw[Cb,eI (by omega)]
 by_cases e:q=i
 ·subst e
  rw[if_pos rfl]
  by_cases o:fe (p.lp.rel q) (p.aK q)=true
  ·rw[zC o,jI]
   rcases Ez o with ⟨k1,k2⟩ | ⟨k1,k2⟩
   ·rw[if_pos k1,k2];rfl
   ·rw[if_neg (by omega),k2];grind
  ·rw[eI (by rw[vK o];have:=(tW p.lp.rel p.aK p.u q).2;omega)]
   unfold sB
   rw[Cc hr]
   by_cases k1:p.lp.rel q=1
   ·rw[if_pos k1,if_pos k1,jI]
   ·rw[if_neg k1,if_neg k1,if_pos (by omega),jI]
 ·rw[if_neg e,eI (Ne.symm (YE hi hr e)),EA (fun hq=>by rw[Cc hq];exact Ne.symm (Q9 hr hq e))]
  exact Ex (Nat.le_refl _) h3
theorem YF{i q:Nat}(hi:i<p.lp.m)(hq:q<p.lp.m):p.eh.A q (p.unit i)=if q=i then 1 else 0:=by
 have h1:=ow p hi
 rw[Cb,eI (by omega)]
 by_cases e:q=i
 ·subst e
  rw[if_pos rfl,jI]
 ·rw[if_neg e,eI (Ne.symm (ahi hi hq e)),EA]
  ·exact Ex (Nat.le_refl _) Mb
  ·intro rq
   rw[Cc rq]
   exact YE hq rq (Ne.symm e)
theorem YG(i:Nat):p.eh.A i p.w=p.lp.b i*(p.aK i:Rat)∧0≤p.eh.A i p.w:=by
 have h:p.eh.A i p.w=p.lp.b i*(p.aK i:Rat):=by rw[Cb,jI]
 refine⟨h,?_⟩
 rw[h]
 show 0≤p.lp.b i*((kO (p.lp.b i) (p.lp.rel i):Int):Rat)
 unfold kO
 split
 ·rename_i hc
  have:p.lp.b i≤0:=by rcases hc with hc | hc <;> grind
  show 0≤p.lp.b i*((-1:Int):Rat)
  grind
 ·rename_i hc
  have:0≤p.lp.b i:=by
   have:¬p.lp.b i<0:=fun h=>hc (.inl h)
   grind
  show 0≤p.lp.b i*((1:Int):Rat)
  grind
def _root_.Lp.Prg.tY(p:Prg)(i:Nat):Option Nat:=if p.lp.rel i=2 then none else some (bD p.lp.rel p.c1 i)
theorem Cd{j:Nat}(h:j<p.lp.n):p.lay.mF j=if p.lp.free j then some (aX p.lp.free j+1)else none:=by
 unfold TL.mF
 rw[Ie p h]
 unfold mV
 by_cases hf:p.lp.free j=true
 ·rw[if_pos hf,if_pos hf,if_pos (by omega),Int.toNat_natCast]
 ·rw[if_neg hf,if_neg hf,if_neg (by omega)]
theorem YH{i:Nat}(h:i<p.lp.m):p.lay.uF i=p.unit i:=by
 simp[TL.uF,Prg.lay,List.getD,h]
theorem EB{i:Nat}(h:i<p.lp.m):p.lay.sF i=(p.aK i:Rat):=by
 have:p.lay.ke[i]? = some ((p.aK i:Int):Rat):=dM (f:=fun i=>(p.aK i:Rat)) h
 exact mb this
theorem ahm(f:Nat→Rat){k:Nat}(hk:k≤p.lp.n):bB (aX p.lp.free k) f=bB k (fun j=>f (p.lay.pF j)+im f (p.lay.mF j)):=by
 induction k with
 | zero=>rfl
 | succ k ih=>
  have h1:aX p.lp.free (k+1)=aX p.lp.free k+1+(if p.lp.free k then 1 else 0):=rfl
  rw[fZ,←ih (by omega),zB p (by omega),Cd (by omega)]
  by_cases hf:p.lp.free k=true
  ·rw[if_pos hf]at h1⊢
   rw[h1,fZ,fZ]
   simp only[im];grind
  ·rw[if_neg hf]at h1⊢
   rw[h1,Nat.add_zero,fZ]
   simp only[im];grind
theorem ahn(f:Nat→Rat)(k:Nat):bB (bD p.lp.rel p.c1 k) f=bB p.c1 f+bB k (fun i=>im f (p.tY i)):=by
 induction k with
 | zero=>rw[Bq,Rat.add_zero];rfl
 | succ k ih=>
  have h1:bD p.lp.rel p.c1 (k+1)=bD p.lp.rel p.c1 k+(if p.lp.rel k=2 then 0 else 1):=rfl
  rw[fZ]
  by_cases hr:p.lp.rel k=2
  ·rw[if_pos hr]at h1
   have:p.tY k=none:=by unfold Prg.tY;rw[if_pos hr]
   rw[h1,Nat.add_zero,this,ih]
   simp only[im];grind
  ·rw[if_neg hr]at h1
   have:p.tY k=some (bD p.lp.rel p.c1 k):=by unfold Prg.tY;rw[if_neg hr]
   rw[h1,this,fZ,ih]
   simp only[im];grind
theorem Mc(bx:p.Ok):dF p.lp p.eh.A p.w p.u p.lay.pF p.lay.mF p.tY p.lay.uF p.lay.sF where
 valid:=bx.valid
 uw:=fp p
 WE i hi:=by
  rw[EB hi]
  rcases sH (p.lp.b i) (p.lp.rel i)with h | h
  ·left;show ((kO _ _:Int):Rat)=1;rw[h];rfl
  ·right;show ((kO _ _:Int):Rat) = -1;rw[h];rfl
 rhs i hi:=by rw[EB hi];exact YG i
 pl j hj:=by
  rw[zB p hj]
  refine⟨Nat.lt_of_lt_of_le (Ig p hj) (mr p),fun i hi=> ?_⟩
  rw[EB hi];exact ahj hj
 mi j hj:=by
  rw[Cd hj]
  refine⟨fun h=>by rw[h];rfl,fun k hk=> ?_⟩
  by_cases hf:p.lp.free j=true
  ·rw[if_pos hf]at hk
   cases hk
   have h1:=Ew p hj
   unfold mV at h1
   rw[if_pos hf]at h1
   have h2:=mr p
   refine⟨by omega,fun i hi=> ?_⟩
   rw[EB hi];exact ahk hj hf
  ·rw[if_neg hf]at hk;cases hk
 PQ j hj hf:=by
  rw[Cd hj,if_pos hf];exact⟨_,rfl⟩
 sl i hi:=by
  refine⟨fun h=>by unfold Prg.tY;rw[if_pos h],fun h=>⟨_,by unfold Prg.tY;rw[if_neg h]⟩,fun k hk=> ?_⟩
  unfold Prg.tY at hk
  by_cases hr:p.lp.rel i=2
  ·rw[if_pos hr]at hk;cases hk
  ·rw[if_neg hr]at hk
   cases hk
   refine⟨Ca hi hr,fun q hq=> ?_⟩
   rw[EB hi]
   exact ahl hi (by have:=bx.valid i hi;omega)
 un i hi:=by
  rw[YH hi]
  exact⟨ow p hi,fun q hq=>YF hi hq⟩
 sum f:=by
  have h1:p.u=bD p.lp.rel p.c1 p.lp.m:=rfl
  rw[h1,ahn,show p.c1=aX p.lp.free p.lp.n from rfl,ahm f (Nat.le_refl _)]
theorem ox:p.lay.Ok p.lp.n p.lp.m where
 LK:=by simp[Prg.lay]
 LL:=by simp[Prg.lay]
 Qn:=by simp[Prg.lay]
 Qo:=bh _ _
 pw j hj:=by
  rw[zB p hj]
  have:=Ig p hj;have:=mr p;have:=fp p
  show _<p.w;omega
 mw j hj:=by
  rw[Ie p hj]
  have:=Ew p hj;have:=mr p;have:=fp p
  show _<((p.w:Nat):Int);omega
 uw i hi:=by rw[YH hi];exact ow p hi
 s1 i hi:=by rw[EB hi];exact YD (sH _ _)
theorem aho:p.eh.WF where
 lt i hi:=ow p hi
 unit i k hi hk:=YF hi hk
 zero i hi:=rfl
theorem ahp:p.eh.j8:=fun i _=>(YG i).2
theorem ahq:ar.Rows p.eh.A p.lp.m p.w p.eh:=ar.aft (fun _ _=>rfl) rfl rfl
end
end Go.aw
namespace Go.aw
open Go.Proofs Num Lp
theorem EC{D X:Nat}{q:Rat}(D':Nat)(h:ar.dZ D X q):ar.dZ (D*D') (X*D') q:=by
 obtain⟨z,h1,h2⟩:=h
 refine⟨z*D',?_,?_⟩
 ·rw[Rat.natCast_mul,Rat.intCast_mul,←h1]
  have:((D':Int):Rat)=(D':Rat):=rfl
  rw[this];grind
 ·rw[Int.natAbs_mul,Int.natAbs_natCast];exact Nat.mul_le_mul_right _ h2
theorem YI{D D' X Y:Nat}{q r:Rat}(h:ar.dZ D X q)(k:ar.dZ D' Y r):ar.dZ (D*D') (X*Y) (q*r):=by
 obtain⟨z,h1,h2⟩:=h
 obtain⟨y,k1,k2⟩:=k
 refine⟨z*y,?_,?_⟩
 ·rw[Rat.natCast_mul,Rat.intCast_mul,←h1,←k1];grind
 ·rw[Int.natAbs_mul];exact Nat.mul_le_mul h2 k2
theorem Rb{T:ar}{f:Nat→Rat}{D D' X Y k j:Nat}(hB:∀i,i<T.m→T.B i<T.n)(hf:∀j,j<T.n→ar.dZ D X (f j))(hA:∀i,i<T.m→ar.dZ D' Y (T.A i j))(hk:k≤T.m)(hj:j≤T.n):
  ar.dZ (D*D') (X*D'+k*(X*Y)) (gQ T f k j):=by
 unfold gQ
 refine ar.dZ.sub ?_ (ar.afY k _ fun i hi=>YI (hf _ (hB i (by omega))) (hA i (by omega)))
 split
 ·exact ar.BG _ _
 ·exact EC _ (hf j (by omega))
theorem ahr(e:Nat):2^e<B^(e+1):=by
 have h1:2^(e+1)≤B^(e+1):=Nat.pow_le_pow_left (by decide) _
 have h2:2^e<2^(e+1):=Nat.pow_lt_pow_right (by decide) (by omega)
 omega
theorem ED{D X e:Nat}{q:Rat}(hD:0<D)(h:ar.dZ D X q)(h1:D≤2^e)(h2:X≤2^e):aP q≤e+1:=by
 have h3:=ar.afT hD h
 have h4:=ahr e
 unfold aP
 rw[Nat.max_le,jn,jn]
 omega
theorem Ii{D D0 n j e f:Nat}(hD:D≤2^e)(h0:D0≤2^f):D*ar.me n j D0 1≤2^(e+f)∧2^(e+ar.me n j f 0)≤2^(e+f):=by
 have h1:(1:Nat)≤2^f:=Nat.one_le_two_pow
 unfold ar.me
 split
 ·exact⟨by rw[Nat.pow_add];exact Nat.mul_le_mul hD h0,Nat.le_refl _⟩
 ·exact⟨by rw[Nat.pow_add];exact Nat.mul_le_mul hD h1,Nat.pow_le_pow_right (by decide) (by omega)⟩
theorem Rc{D D0 n j:Nat}(hD:0<D)(h0:0<D0):0<D*ar.me n j D0 1:=Nat.mul_pos hD (by unfold ar.me;split <;> omega)
theorem ahs{D0 f e:Nat}{T:ar}(h:ar.Bd D0 f e T)(p0:0<D0)(h0:D0≤2^f):Sz (e+f+1) T:=by
 obtain⟨D,h1,h2,h3,h4⟩:=h
 exact⟨fun i hi j hj=>ED (Rc h1 p0) (h3 i hi j hj) (Ii h2 h0).1 (Ii (j:=j) (n:=T.n) h2 h0).2,fun j hj=>ED (Rc h1 p0) (h4 j hj) (Ii h2 h0).1 (Ii (j:=j) (n:=T.n) h2 h0).2⟩
def In(l:List Rat)(p:Prg):Prop:=∀i,i<p.lp.m→∀j,j<p.lp.n→p.lp.a i j∈l
structure kP(D0 f:Nat)(p:Prg):Prop where
 pos:0<D0
 le:D0≤2^f
 b:∀i,i<p.lp.m→ar.dZ D0 (2^f) (p.lp.b i)
theorem EE{P:Rat→Prop}{f:Nat→Rat}{k:Nat}{q:Rat}(hf:∀j,P (f j))(hq:P q):∀j,P (bY f k q j):=fun j=>by
 unfold bY;split
 ·exact hq
 ·exact hf j
abbrev CM(l:List Rat)(q:Rat):Prop:=ar.dZ (ar.fS l) (2^(2*ar.dA l)) q
section
variable {p:Prg} {l:List Rat}
theorem YJ{D X:Nat}{q:Rat}{s:Int}(h:ar.dZ D X q)(hs:s=1∨s = -1):ar.dZ D X (q*(s:Rat)):=by
 rcases hs with e | e
 ·rw[e,show q*((1:Int):Rat)=q by grind];exact h
 ·rw[e,show q*((-1:Int):Rat) = -q by grind];exact h.neg
theorem YK:CM l 1:=ar.W4 l 1 (by decide)
theorem YL{s:Int}(hs:s=1∨s = -1):CM l (s:Rat):=ar.W4 l s (by omega)
theorem YM{a:Nat→Rat}{s:Int}(hs:s=1∨s = -1)(k:Nat)(ha:∀j,j<k→CM l (a j))(L:TL):∀j,CM l (kj L a (s:Rat) k j):=by
 induction k with
 | zero=>exact fun j=>ar.BG _ _
 | succ k ih=>
  have uZ:=ih (fun j hj=>ha j (by omega))
  have h1:=YJ (ha k (by omega)) hs
  intro j
  rw[B0]
  split
  ·exact EE (EE uZ h1) h1.neg j
  ·exact EE uZ h1 j
theorem Re(h:In l p){i:Nat}(hi:i<p.lp.m){j:Nat}(hj:j≠p.w):CM l (p.eh.A i j):=by
 have hs:=sH (p.lp.b i) (p.lp.rel i)
 rw[Cb,eI hj]
 refine EE (fun j=> ?_) YK j
 have h1:=YM (l:=l) (L:=p.lay) hs p.lp.n (fun j hj=>ar.Lv (h i hi j hj))
 unfold sB
 split
 ·exact EE h1 (YL hs) j
 ·split
  ·exact EE h1 (YL hs).neg j
  ·exact h1 j
theorem Rf{D0 f:Nat}(h:kP D0 f p){i:Nat}(hi:i<p.lp.m):ar.dZ D0 (2^f) (p.eh.A i p.w):=by
 rw[Cb,jI]
 exact YJ (h.b i hi) (sH (p.lp.b i) (p.lp.rel i))
def qm(T:ar)(c0:Nat→Rat):ar:={T with c:=gQ T c0 T.m}
structure Inv(p:Prg)(c0:Nat→Rat)(S:ar):Prop where
 wf:S.WF
 dd:S.j8
 rows:ar.Rows p.eh.A p.lp.m p.w S
 off:dF.tN p.eh.A p.lp.m p.w c0 S.c
theorem aht{T:ar}{c0:Nat→Rat}(hB:∀i,i<T.m→T.B i<T.n)(hu:∀i k,i<T.m→k<T.m→T.A k (T.B i)=if k=i then 1 else 0){i:Nat}(hi:i<T.m):gQ T c0 T.m (T.B i)=0:=by
 unfold gQ
 have h1:=hB i hi
 rw[if_neg (by omega),r6 hi _ (fun k hk a7=>by rw[hu i k hi hk,if_neg a7];grind),hu i i hi hi,if_pos rfl]
 grind
theorem Inv.YN{S:ar}{c0:Nat→Rat}(h0:c0 p.w=0)(hW:S.WF)(hF:S.j8)(hR:ar.Rows p.eh.A p.lp.m p.w S):Inv p c0 (qm S c0):=by
 have dQ:ar.Rows p.eh.A p.lp.m p.w (qm S c0):=⟨hR.m,hR.n,hR.mul,hR.oh⟩
 refine⟨⟨hW.lt,hW.unit,fun i hi=>aht hW.lt hW.unit hi⟩,hF,dQ,hR.off c0 (fun i=>c0 (S.B i)) fun j hj=> ?_⟩
 show gQ S c0 S.m j=_
 unfold gQ
 rw[hR.m,hR.n]
 by_cases e:j=p.w
 ·rw[if_pos e,e,h0]
 ·rw[if_neg e]
theorem Inv.step{S:ar}{c0:Nat→Rat}(h:Inv p c0 S){u r s:Nat}(hu:u≤S.n)(hb:S.pz u r s):Inv p c0 (S.pivot r s):=by
 have hp:S.A r s≠0:=by have:=hb.pos;grind
 have hs:=hb.su
 have hr:=hb.rm
 exact⟨ar.Br h.wf hr (by omega) hp,ar.GI h.dd hb,h.rows.pivot (by rw[←h.rows.m];exact hr) hp,h.rows.PS h.off (by rw[←h.rows.m];exact hr)⟩
theorem Inv.same{S T:ar}{c0:Nat→Rat}(h:Inv p c0 S)(h':Inv p c0 T):ar.j9 S T:=
 ⟨by rw[h.rows.m,h'.rows.m],by rw[h.rows.n,h'.rows.n],fun x=>by rw[h.rows.oh,h'.rows.oh],fun x hx=>by
  rw[h.rows.cost h.off hx,h'.rows.cost h'.off ((h'.rows.oh x).2 ((h.rows.oh x).1 hx))]⟩
theorem YO(m:Nat):m+1≤2^m:=by
 induction m with
 | zero=>decide
 | succ m ih=>rw[Nat.pow_succ];omega
theorem ahu{D0 f:Nat}(h:In l p)(hb:kP D0 f p){c0:Nat→Rat}(hc:∀j,j<p.w→CM l (c0 j)):ar.Bd D0 f (4*ar.dA l+p.lp.m) (qm p.eh c0):=by
 have hD:=ar.GV l
 have EF:=ar.BF l
 have hm:=YO p.lp.m
 generalize xI:2^(2*ar.dA l)=X at *
 have hX:1≤X:=by rw[←xI];exact Nat.one_le_two_pow
 have Md:ar.fS l≤X:=by rw[←xI];exact Nat.le_trans EF (Nat.pow_le_pow_right (by decide) (by omega))
 have p2:2^(4*ar.dA l+p.lp.m)=X*X*2^p.lp.m:=by rw[←xI,←Nat.pow_add,←Nat.pow_add];congr 1;omega
 have YP:ar.fS l*ar.fS l≤X*X:=Nat.mul_le_mul Md Md
 have hXD:X*ar.fS l≤X*X:=Nat.mul_le_mul_left _ Md
 have hM:∀x,x≤X*X→x≤2^(4*ar.dA l+p.lp.m):=fun x hx=>by
  rw[p2];exact Nat.le_trans hx (Nat.le_mul_of_pos_right _ (by omega))
 have tq:∀{q},CM l q→ar.dZ (ar.fS l) X q:=fun{q} h=>by rw[←xI];exact h
 have oR:(qm p.eh c0).n=p.w:=rfl
 refine⟨ar.fS l*ar.fS l,Nat.mul_pos hD hD,hM _ YP,fun i hi j hj=> ?_,fun j hj=> ?_⟩
 ·by_cases e:j=p.w
  ·subst e
   rw[←oR,ar.zh,ar.zh,Nat.mul_comm,oR]
   refine(EC (ar.fS l*ar.fS l) (Rf hb hi)).mono ?_
   rw[Nat.pow_add,Nat.mul_comm]
   exact Nat.mul_le_mul_right _ (hM _ YP)
  ·rw[ar.D3 (by rw[oR]at hj⊢;omega),ar.D3 (by rw[oR]at hj⊢;omega),Nat.mul_one]
   exact(EC _ (tq (Re h hi e))).mono (hM _ hXD)
 ·by_cases e:j=p.w
  ·subst e
   rw[←oR,ar.zh,ar.zh,oR]
   have h1:=EC (ar.fS l) (Rb (T:=p.eh) (k:=p.lp.m) (j:=p.w) (fun i hi=>ow p hi) (fun j hj=>tq (hc j hj)) (fun i hi=>Rf hb hi) (Nat.le_refl _) hj)
   rw[show ar.fS l*ar.fS l*D0=ar.fS l*D0*ar.fS l by rw[Nat.mul_assoc,Nat.mul_assoc,Nat.mul_comm D0]]
   refine h1.mono ?_
   have h2:X*D0≤X*2^f:=Nat.mul_le_mul_left _ hb.le
   have h3:X*D0+p.lp.m*(X*2^f)≤(p.lp.m+1)*(X*2^f):=by rw[Nat.succ_mul p.lp.m];omega
   refine Nat.le_trans (Nat.mul_le_mul h3 Md) ?_
   rw[Nat.pow_add,p2]
   have e4:(p.lp.m+1)*(X*2^f)*X=X*X*(p.lp.m+1)*2^f:=by
    rw[Nat.mul_comm _ X,Nat.mul_left_comm (p.lp.m+1) X,←Nat.mul_assoc,Nat.mul_assoc (X*X)]
   rw[e4]
   exact Nat.mul_le_mul_right _ (Nat.mul_le_mul_left _ hm)
  ·rw[ar.D3 (by rw[oR]at hj⊢;omega),ar.D3 (by rw[oR]at hj⊢;omega),Nat.mul_one]
   refine(Rb (T:=p.eh) (k:=p.lp.m) (fun i hi=>ow p hi) (fun j hj=>tq (hc j hj)) (fun i hi=>tq (Re h hi e)) (Nat.le_refl _) hj).mono ?_
   rw[Nat.add_zero,p2]
   refine Nat.le_trans (m:=(p.lp.m+1)*(X*X)) ?_ (by rw[Nat.mul_comm];exact Nat.mul_le_mul_left _ hm)
   rw[Nat.succ_mul p.lp.m];omega
def iP(l:List Rat)(k m:Nat):Nat:=2^k*(4*ar.dA l+m+1)
def bits(l:List Rat)(k m f:Nat):Nat:=iP l k m+f
theorem Inv.base{c0:Nat→Rat}(h0:c0 p.w=0):Inv p c0 (qm p.eh c0):=Inv.YN h0 aho ahp ahq
def EG(p:Prg)(k:Nat):Prop:=p.lp.m≤k∨p.w≤p.lp.m+k
theorem Inv.bd{D0 f k:Nat}{S:ar}{c0:Nat→Rat}(h:Inv p c0 S)(hl:In l p)(hb:kP D0 f p)(hk:EG p k)(h0:c0 p.w=0)(hc:∀j,j<p.w→CM l (c0 j)):ar.Bd D0 f (iP l k p.lp.m-1) S:=by
 refine ar.afQ (Inv.base h0).wf h.wf ((Inv.base h0).same h) (ahu hl hb hc) ?_
 rcases hk with hk | hk
 ·exact Nat.le_trans (ar.afR _ _) (by rw[h.rows.m];exact hk)
 ·have h1:=ar.afS (Inv.base h0).wf h.wf ((Inv.base h0).same h)
  have h2:(qm p.eh c0).n=p.w:=rfl
  have h3:(qm p.eh c0).m=p.lp.m:=rfl
  omega
theorem EH(l:List Rat)(k m:Nat):2*ar.dA l+m+1≤iP l k m:=by
 unfold iP
 have h1:1≤2^k:=Nat.one_le_two_pow
 have h2:1*(4*ar.dA l+m+1)≤2^k*(4*ar.dA l+m+1):=Nat.mul_le_mul_right _ h1
 omega
theorem Inv.sz{D0 f k:Nat}{S:ar}{c0:Nat→Rat}(h:Inv p c0 S)(hl:In l p)(hb:kP D0 f p)(hk:EG p k)(h0:c0 p.w=0)(hc:∀j,j<p.w→CM l (c0 j)):Sz (bits l k p.lp.m f) S:=by
 have h1:=ahs (h.bd hl hb hk h0 hc) hb.pos hb.le
 have h2:=EH l k p.lp.m
 rwa [show iP l k p.lp.m-1+f+1=bits l k p.lp.m f by unfold bits;omega]at h1
theorem Rg{q:Rat}(h:CM l q)(k m f:Nat):aP q≤bits l k m f:=by
 have h2:=EH l k m
 refine Nat.le_trans (ED (e:=2*ar.dA l) (ar.GV l) h ?_ (Nat.le_refl _)) (by unfold bits;omega)
 exact Nat.le_trans (ar.BF l) (Nat.pow_le_pow_right (by decide) (by omega))
theorem YQ{D0 f k:Nat}{S:ar}{c1:Nat→Rat}(hB:∀i,i<S.m→S.B i<S.n)(hm:S.m=p.lp.m)(hn:S.n=p.w)(hb:ar.Bd D0 f (iP l k p.lp.m-1) S)(p0:0<D0)(h0:D0≤2^f)(hc:∀j,j<p.w→CM l (c1 j)):∀k',k'≤S.m→∀j,j≤S.n→aP (gQ S c1 k' j)≤2*bits l k p.lp.m f:=by
 intro k' hk j hj
 obtain⟨D,h1,h2,h3,_⟩:=hb
 have hbp:=EH l k p.lp.m
 have hD:=ar.GV l
 have EF:=ar.BF l
 obtain⟨q1,q2⟩:=Ii (j:=j) (n:=S.n) h2 h0
 have key:=Rb hB (fun j hj=>hc j (by omega)) (fun i hi=>h3 i hi j hj) hk hj
 refine Nat.le_trans (ED (e:=2*ar.dA l+(iP l k p.lp.m-1+f)+p.lp.m) (Nat.mul_pos hD (Rc h1 p0)) key ?_ ?_) (by unfold bits;omega)
 ·refine Nat.le_trans (Nat.mul_le_mul EF q1) ?_
  rw[←Nat.pow_add]
  exact Nat.pow_le_pow_right (by decide) (by omega)
 ·rw[Nat.pow_add _ _ p.lp.m,Nat.pow_add 2 (2*ar.dA l) (iP l k p.lp.m-1+f)]
  generalize 2^(iP l k p.lp.m-1+f)=Z at *
  have g1:2^(2*ar.dA l)*(D*ar.me S.n j D0 1)≤2^(2*ar.dA l)*Z:=Nat.mul_le_mul_left _ q1
  have g3:k'*(2^(2*ar.dA l)*2^(iP l k p.lp.m-1+ar.me S.n j f 0))≤k'*(2^(2*ar.dA l)*Z):=Nat.mul_le_mul_left _ (Nat.mul_le_mul_left _ q2)
  have g2:=YO p.lp.m
  refine Nat.le_trans (m:=(k'+1)*(2^(2*ar.dA l)*Z)) (by rw[Nat.succ_mul k',Nat.add_comm];exact Nat.add_le_add g3 g1) ?_
  rw[Nat.mul_comm];exact Nat.mul_le_mul_left _ (by omega)
end
end Go.aw
namespace Go.aw
open Go.Proofs Num Lp
section
variable {p:LP}
theorem Me{n:Nat}{a x x':Nat→Rat}(h:∀j,j<n→x j=x' j):bN n a x=bN n a x':=afm (fun _ _=>rfl) h
theorem dY.congr{t:Rat}{x x':Nat→Rat}(h:∀j,j<p.n→x j=x' j)(hm:p.dY t x):p.dY t x':=
 ⟨fun j hj hf=>by rw[←h j hj];exact hm.1 j hj hf,fun i hi=>by rw[←Me h];exact hm.2 i hi⟩
theorem Signed.congr{y y':Nat→Rat}(h:∀i,i<p.m→y i=y' i)(hm:p.Signed y):p.Signed y':=fun i hi=>by rw[←h i hi];exact hm i hi
theorem YR{y y':Nat→Rat}(h:∀i,i<p.m→y i=y' i)(j:Nat):p.ka y j=p.ka y' j:=eS fun i hi=>by rw[h i hi]
theorem YS{y y':Nat→Rat}(h:∀i,i<p.m→y i=y' i):p.vu y=p.vu y':=eS fun i hi=>by rw[h i hi]
theorem za.congr{c x x' y y':Nat→Rat}(hx:∀j,j<p.n→x j=x' j)(hy:∀i,i<p.m→y i=y' i)(h:p.za c x y):p.za c x' y':=
 ⟨dY.congr hx h.dd,Signed.congr hy h.signed,fun j hj=>by rw[←YR hy];exact h.iG j hj,by rw[←YS hy,←Me hx];exact h.eq⟩
theorem zb.congr{y y':Nat→Rat}(hy:∀i,i<p.m→y i=y' i)(h:p.zb y):p.zb y':=
 ⟨Signed.congr hy h.signed,fun j hj=>by rw[←YR hy];exact h.iG j hj,by rw[←YS hy];exact h.pos⟩
theorem zc.congr{c x x' r r':Nat→Rat}(hx:∀j,j<p.n→x j=x' j)(hr:∀j,j<p.n→r j=r' j)(h:p.zc c x r):p.zc c x' r':=
 ⟨dY.congr hx h.dd,dY.congr hr h.ray,by rw[←Me hr];exact h.neg⟩
end
section
variable {p:Prg} {l c:List Rat} {T:ar}
abbrev pn(p:Prg):Nat→Rat:=ar.jG p.u p.w
abbrev kA(p:Prg)(c:List Rat):Nat→Rat:=kj p.lay (fn c) 1 p.lp.n
theorem Ce:pn p p.w=0:=ar.WN _ _
theorem Ij(j:Nat):CM l (pn p j):=by
 show CM l (ar.jG _ _ _)
 unfold ar.jG;split
 ·exact YK
 ·exact ar.BG _ _
theorem Mf:ar.GM p.lp p.w p.lay.pF p.lay.mF p.tY (fn c) (kA p c) where
 pl j hj:=by rw[zB p hj];show kj p.lay (fn c) 1 p.lp.n _=_;rw[(Ey (Nat.le_refl _) hj).1];grind
 mi j hj k hk:=by
  rw[Cd hj]at hk
  by_cases hf:p.lp.free j=true
  ·rw[if_pos hf]at hk;cases hk
   show kj p.lay (fn c) 1 p.lp.n _=_
   rw[(Ey (Nat.le_refl _) hj).2 hf];grind
  ·rw[if_neg hf]at hk;cases hk
 sl i hi k hk:=by
  unfold Prg.tY at hk
  split at hk
  ·cases hk
  ·cases hk
   exact Ex (Nat.le_refl _) (sI _ _ _).2
 last:=Ex (Nat.le_refl _) (Nat.le_trans (mr p) (fp p))
theorem Ik:kA p c p.w=0:=(Mf (p:=p) (c:=c)).last
theorem Mg(hc:∀j,j<p.lp.n→fn c j∈l)(j:Nat):CM l (kA p c j):=by
 have:=YM (l:=l) (a:=fn c) (s:=1) (.inl rfl) p.lp.n (fun j hj=>ar.Lv (hc j hj)) p.lay j
 exact this
theorem YT(bx:p.Ok)(h:Inv p (pn p) T)(hn:∀j,j<p.u→0≤T.c j)(gj:T.c p.w<0):Lq p (aL (fun i=>p.lay.sF i*(pn p (p.lay.uF i)-T.c (p.lay.uF i))) p.lp.m):=
 ⟨bx,bh _ _,zb.congr (fun i hi=>(D5 hi).symm) (dF.afs (Mc bx) h.off (fun j hj=>ar.PW hj) Ce hn gj)⟩
theorem YU(h:Inv p (pn p) T)(hv:¬T.c p.w<0):ar.Clean p.u 0 T:=
 ar.Clean.start (ar.WO h.wf h.dd h.rows h.off (by grind)).2
theorem YV(h:Inv p (pn p) T){s:Nat}(hs:s<p.u)(gj:T.c s<0)(hA:∀i,i<T.m→T.A i s≤0):False:=
 ar.afw h.wf h.rows h.off (Nat.lt_of_lt_of_le hs (fp p)) gj hA
def Jx(p:Prg)(k:Nat)(S:ar):Prop:=Inv p (pn p) S∧ar.Clean p.u k S
theorem Jx.skip{k:Nat}(h:Jx p k T)(hk:T.B k<p.u∨∀j,j<p.u→T.A k j=0):Jx p (k+1) T:=⟨h.1,h.2.skip hk⟩
theorem Jx.pivot{k s:Nat}(h:Jx p k T)(hk:k<T.m)(hu:p.u≤T.B k)(hs:s<p.u)(hp:T.A k s≠0):Jx p (k+1) (T.pivot k s):=by
 have mU:=fp p
 have hm:k<p.lp.m:=by rw[←h.1.rows.m];exact hk
 exact⟨⟨ar.Br h.1.wf hk (by rw[h.1.rows.n];omega) hp,h.2.dd h.1.dd hk hu s,h.1.rows.pivot hm hp,h.1.rows.PS h.1.off hm⟩,h.2.afy hk hu hs⟩
def I2(p:Prg)(c:List Rat)(S:ar):Prop:=Inv p (kA p c) S∧ar.Clean p.u S.m S
theorem I2.start(h:Jx p p.lp.m T):I2 p c (qm T (kA p c)):=by
 have hc:=h.2
 rw[←h.1.rows.m]at hc
 exact⟨Inv.YN Ik h.1.wf h.1.dd h.1.rows,⟨hc.zero,hc.row⟩⟩
theorem I2.step{r s:Nat}(h:I2 p c T)(hb:T.pz p.u r s):I2 p c (T.pivot r s):=
 ⟨h.1.step (by rw[h.1.rows.n];exact fp p) hb,h.2.GL hb⟩
theorem YW(bx:p.Ok)(fo:c.length=p.free.length)(h:I2 p c T)(hn:∀j,j<p.u→0≤T.c j):
  DX p c (aL (dF.vec p.lay.pF p.lay.mF T.pt) p.lp.n) (aL (fun i=>p.lay.sF i*(kA p c (p.lay.uF i)-T.c (p.lay.uF i))) p.lp.m)∧-(T.c p.w)=bN p.free.length (fn c) (fn (aL (dF.vec p.lay.pF p.lay.mF T.pt) p.lp.n)):=by
 have h1:=ar.afz (Mc bx) h.1.wf h.1.dd h.1.rows h.2 Mf h.1.off hn
 have h2:=za.congr (x':=fn (aL (dF.vec p.lay.pF p.lay.mF T.pt) p.lp.n)) (y':=fn (aL (fun i=>p.lay.sF i*(kA p c (p.lay.uF i)-T.c (p.lay.uF i))) p.lp.m)) (fun j hj=>(D5 hj).symm) (fun i hi=>(D5 hi).symm) h1
 refine⟨⟨⟨bx,bh _ _,h2.dd⟩,fo,bh _ _,h2⟩,?_⟩
 rw[←ar.WU (Mc bx) h.1.wf h.1.rows h.2 Mf h.1.off]
 exact Me (n:=p.lp.n) fun j hj=>(D5 hj).symm
theorem YX(bx:p.Ok)(fo:c.length=p.free.length)(h:I2 p c T){s:Nat}(hs:s<p.u)(gj:T.c s<0)(hA:∀i,i<T.m→T.A i s≤0):
  Lr p c (aL (dF.vec p.lay.pF p.lay.mF T.pt) p.lp.n) (aL (dF.vec p.lay.pF p.lay.mF (T.dir s)) p.lp.n):=by
 have h1:=ar.afA (Mc bx) h.1.wf h.1.dd h.1.rows h.2 Mf h.1.off hs gj hA
 have h2:=zc.congr (x':=fn (aL (dF.vec p.lay.pF p.lay.mF T.pt) p.lp.n)) (r':=fn (aL (dF.vec p.lay.pF p.lay.mF (T.dir s)) p.lp.n)) (fun j hj=>(D5 hj).symm) (fun j hj=>(D5 hj).symm) h1
 exact⟨⟨bx,bh _ _,h2.dd⟩,fo,bh _ _,h2⟩
theorem Rh{N:Nat}(hW:T.WF)(hz:Sz N T)(h0:1≤N){j:Nat}(hj:j<T.n):aP (T.pt j)≤N:=by
 by_cases h:∃i,i<T.m∧T.B i=j
 ·obtain⟨i,hi,rfl⟩:=h
  rw[ar.PU hW hi];exact hz.A i hi _ (Nat.le_refl _)
 ·rw[ar.PV hj (fun i hi e=>absurd ⟨i,hi,e⟩ h)]
  exact Nat.le_trans (by decide) h0
theorem YY{N:Nat}(hW:T.WF)(hz:Sz N T)(h0:1≤N){s j:Nat}(hs:s≤T.n)(Eh:∀i,i<T.m→T.B i≠s):aP (T.dir s j)≤N:=by
 unfold ar.dir
 by_cases e:j=s
 ·subst e
  rw[if_pos rfl,mP (fun i hi=>by rw[if_neg (Eh i hi)]),show (1:Rat)-0=1 by grind]
  exact Nat.le_trans (by decide) h0
 ·rw[if_neg e]
  by_cases h:∃i,i<T.m∧T.B i=j
  ·obtain⟨i,hi,rfl⟩:=h
   rw[r6 hi _ (fun k hk a7=>by rw[if_neg (fun e'=>a7 (hW.inj hk hi e'))]),if_pos rfl,show (0:Rat)-T.A i s = -(T.A i s) by grind,wQ]
   exact hz.A i hi s hs
  ·rw[mP (fun i hi=>by rw[if_neg (fun e'=>h ⟨i,hi,e'⟩)]),show (0:Rat)-0=0 by grind]
   exact Nat.le_trans (by decide) h0
theorem YZ(hW:T.WF){s:Nat}(gj:T.c s<0):∀i,i<T.m→T.B i≠s:=fun i hi e=>by
 have:=hW.zero i hi
 rw[e]at this;grind
end
structure Fits(p:Prg)(c:List Rat)(M:Nat):Prop where
 one:1≤M
 pn:∀j,aP (pn p j)≤M
 kA:∀j,aP (kA p c j)≤M
 tab:∀i,i<p.lp.m→∀j,aP (p.eh.A i j)≤M
 Cf:∀S,Inv p (aw.pn p) S→Sz M S
 oV:∀S,Inv p (aw.kA p c) S→Sz M S
 Ri:∀k,k≤p.lp.m→∀j,j≤p.w→aP (gQ (qm p.eh (aw.pn p)) (aw.pn p) k j)≤2*M
 Rj:∀S,Inv p (aw.pn p) S→∀k,k≤S.m→∀j,j≤S.n→aP (gQ S (aw.kA p c) k j)≤2*M
section
variable {p:Prg} {l c:List Rat} {D0 f k:Nat}
theorem Rk(hl:In l p)(wj:∀j,j<p.lp.n→fn c j∈l)(hb:kP D0 f p)(hk:EG p k):Fits p c (bits l k p.lp.m f) where
 one:=by have:=EH l k p.lp.m;unfold bits;omega
 pn j:=Rg (Ij j) _ _ _
 kA j:=Rg (Mg wj j) _ _ _
 tab i hi j:=by
  by_cases e:j=p.w
  ·subst e
   refine Nat.le_trans (ED (e:=f) hb.pos (Rf hb hi) hb.le (Nat.le_refl _)) ?_
   have:=EH l k p.lp.m;unfold bits;omega
  ·exact Rg (Re hl hi e) _ _ _
 Cf S h:=h.sz hl hb hk Ce fun j _=>Ij j
 oV S h:=h.sz hl hb hk Ik fun j _=>Mg wj j
 Ri:=YQ (fun i hi=>ow p hi) rfl rfl ((Inv.base Ce).bd hl hb hk Ce fun j _=>Ij j) hb.pos hb.le fun j _=>Ij j
 Rj S h:=YQ h.wf.lt h.rows.m h.rows.n (h.bd hl hb hk Ce fun j _=>Ij j) hb.pos hb.le fun j _=>Mg wj j
theorem Y0{T:ar}(hl:In l p)(wj:∀j,j<p.lp.n→fn c j∈l)(hb:kP D0 f p)(hk:EG p k)(h:I2 p c T):
  ∃D,0<D∧D≤2^iP l k p.lp.m∧ar.dZ (D*D0) (2^(iP l k p.lp.m+f)) (-(T.c p.w))∧∀q,q∈aL (dF.vec p.lay.pF p.lay.mF T.pt) p.lp.n→ar.dZ (D*D0) (2^(iP l k p.lp.m+f)) q:=by
 obtain⟨D,h1,h2,h3,h4⟩:=h.1.bd hl hb hk Ik fun j _=>Mg wj j
 have hp:=EH l k p.lp.m
 have hn:=h.1.rows.n
 have up:∀z,2^(iP l k p.lp.m-1+z)≤2^(iP l k p.lp.m+z):=fun z=>Nat.pow_le_pow_right (by decide) (by omega)
 refine⟨D,h1,Nat.le_trans h2 (up 0),?_,fun q hq=> ?_⟩
 ·have h5:=h4 p.w (by omega)
  rw[←hn,ar.zh,ar.zh]at h5
  rw[←hn]
  exact(h5.mono (up f)).neg
 ·have Y1:∀j,j<p.w→ar.dZ (D*D0) (2^(iP l k p.lp.m-1+f)) (T.pt j):=fun j hj=>by
   by_cases hb:∃i,i<T.m∧T.B i=j
   ·obtain⟨i,hi,rfl⟩:=hb
    have h5:=h3 i hi p.w (by omega)
    rw[←hn,ar.zh,ar.zh]at h5
    rw[ar.PU h.1.wf hi];exact h5
   ·rw[ar.PV (by omega) (fun i hi e=>absurd ⟨i,hi,e⟩ hb)]
    exact ar.BG _ _
  unfold aL at hq
  obtain⟨j,hj,rfl⟩:=List.mem_map.1 hq
  have hj:=List.mem_range.1 hj
  have hm:ar.dZ (D*D0) (2^(iP l k p.lp.m-1+f)) (im T.pt (p.lay.mF j)):=by
   rw[Cd hj]
   by_cases hf:p.lp.free j=true
   ·rw[if_pos hf]
    have:=Ew p hj
    unfold mV at this
    rw[if_pos hf]at this
    have:=mr p
    have:=fp p
    exact Y1 _ (by omega)
   ·rw[if_neg hf];exact ar.BG _ _
  have h6:=(Y1 _ (ox.pw j hj)).sub hm
  refine h6.mono ?_
  rw[show iP l k p.lp.m+f=(iP l k p.lp.m-1+f)+1 by omega,Nat.pow_succ];omega
end
end Go.aw
