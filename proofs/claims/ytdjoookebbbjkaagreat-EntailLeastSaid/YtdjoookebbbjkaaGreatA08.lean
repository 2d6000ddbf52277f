/- Part 8 of the proof: Lay1, Mz, Mz2. -/
import Derived.Test.YtdjoookebbbjkaaGreatA07
set_option linter.unusedVariables false
namespace Go.aq
open Go.Proofs Num Lp
theorem jt(f:Nat→Rat)(k:Nat)(v:Rat):bZ f k v k=v:=by simp[bZ]
theorem eJ{f:Nat→Rat}{k j:Nat}{v:Rat}(h:j≠k):bZ f k v j=f j:=by simp[bZ,h]
section
variable {p:Prg}
theorem Em{a:Nat→Rat}{sg:Rat}{k x:Nat}(hk:k≤p.lp.n)(hx:a6 p.lp.free k≤x):jS p.lay a sg k x=0:=by
 induction k with
 | zero=>rfl
 | succ k ih=>
  have h1:a6 p.lp.free (k+1)=a6 p.lp.free k+1+(if p.lp.free k then 1 else 0):=rfl
  rw[BV,zy p (by omega),Hz p (by omega)]
  unfold m6
  by_cases hf:p.lp.free k=true
  ·rw[if_pos hf]at h1
   rw[if_pos hf,if_pos (by omega),eJ (by rw[Int.toNat_natCast];omega),eJ (by omega)]
   exact ih (by omega) (by omega)
  ·rw[if_neg hf]at h1
   rw[if_neg hf,if_neg (by omega),eJ (by omega)]
   exact ih (by omega) (by omega)
theorem En{a:Nat→Rat}{sg:Rat}{k j:Nat}(hk:k≤p.lp.n)(hj:j<k):jS p.lay a sg k (a6 p.lp.free j)=a j*sg∧(p.lp.free j=true→jS p.lay a sg k (a6 p.lp.free j+1) = -(a j*sg)):=by
 induction k with
 | zero=>omega
 | succ k ih=>
  rw[BV,zy p (by omega),Hz p (by omega)]
  unfold m6
  by_cases e:j=k
  ·subst e
   by_cases hf:p.lp.free j=true
   ·rw[if_pos hf,if_pos (by omega),Int.toNat_natCast]
    refine⟨?_,fun _=>jt _ _ _⟩
    rw[eJ (by omega),jt]
   ·rw[if_neg hf,if_neg (by omega),jt]
    exact⟨rfl,fun h=>absurd h hf⟩
  ·have hm:=BX (fr:=p.lp.free) (show j<k by omega)
   have vg:=ih (by omega) (by omega)
   by_cases hf:p.lp.free k=true
   ·rw[if_pos hf,if_pos (by omega),Int.toNat_natCast]
    refine⟨?_,fun h=> ?_⟩
    ·rw[eJ (by omega),eJ (by omega)];exact vg.1
    ·rw[if_pos h]at hm
     rw[eJ (by omega),eJ (by omega)];exact vg.2 h
   ·rw[if_neg hf,if_neg (by omega)]
    refine⟨?_,fun h=> ?_⟩
    ·rw[eJ (by omega)];exact vg.1
    ·rw[if_pos h]at hm
     rw[eJ (by omega)];exact vg.2 h
theorem LH{i:Nat}:p.c1≤p.unit i:=by
 show _≤qK _ _ _ _ _
 unfold qK
 split
 ·exact(sK _ _ _).2
 ·exact Nat.le_trans (mC p) (sL _ _ _ _).2
theorem Eo{i:Nat}(h:eY (p.lp.rel i) (p.aI i)=true):(p.lp.rel i=1∧p.aI i=1)∨(p.lp.rel i=3∧p.aI i = -1):=by
 unfold eY at h
 rwa [decide_eq_true_eq]at h
theorem zz{i:Nat}(h:eY (p.lp.rel i) (p.aI i)=true):p.unit i=bC p.lp.rel p.c1 i:=by
 show qK _ _ _ _ _=_;unfold qK;rw[if_pos h]
theorem vP{i:Nat}(h:¬eY (p.lp.rel i) (p.aI i)=true):p.unit i=a8 p.lp.rel p.aI p.u i:=by
 show qK _ _ _ _ _=_;unfold qK;rw[if_neg h]
theorem Qw{rel:Nat→Int}{c i q:Nat}(hi:rel i≠2)(hq:rel q≠2)(h:q≠i):bC rel c q≠bC rel c i:=by
 rcases Nat.lt_or_gt_of_ne h with h | h
 ·have:=Qg (rel:=rel) (c:=c) h
  rw[if_neg hq]at this;omega
 ·have:=Qg (rel:=rel) (c:=c) h
  rw[if_neg hi]at this;omega
theorem B3{i:Nat}(hi:i<p.lp.m)(hr:p.lp.rel i≠2):bC p.lp.rel p.c1 i<p.u:=by
 have:=Qu p hi hr
 unfold eV at this
 rw[if_neg hr]at this
 omega
theorem ahc{i q:Nat}(hi:i<p.lp.m)(hq:q<p.lp.m)(h:q≠i):p.unit q≠p.unit i:=by
 by_cases oi:eY (p.lp.rel i) (p.aI i)=true
 ·have ri:p.lp.rel i≠2:=by have:=Eo oi;omega
  by_cases oq:eY (p.lp.rel q) (p.aI q)=true
  ·have rq:p.lp.rel q≠2:=by have:=Eo oq;omega
   rw[zz oi,zz oq];exact Qw ri rq h
  ·rw[zz oi,vP oq]
   have:=B3 hi ri
   have:=(sL p.lp.rel p.aI p.u q).2
   omega
 ·by_cases oq:eY (p.lp.rel q) (p.aI q)=true
  ·have rq:p.lp.rel q≠2:=by have:=Eo oq;omega
   rw[vP oi,zz oq]
   have:=B3 hq rq
   have:=(sL p.lp.rel p.aI p.u i).2
   omega
  ·rw[vP oi,vP oq]
   rcases Nat.lt_or_gt_of_ne h with h | h
   ·have:=Qh (rel:=p.lp.rel) (sg:=p.aI) (u:=p.u) h
    rw[if_neg oq]at this;omega
   ·have:=Qh (rel:=p.lp.rel) (sg:=p.aI) (u:=p.u) h
    rw[if_neg oi]at this;omega
theorem Yd{i q:Nat}(hi:i<p.lp.m)(ri:p.lp.rel i≠2)(h:q≠i):p.unit q≠bC p.lp.rel p.c1 i:=by
 by_cases oq:eY (p.lp.rel q) (p.aI q)=true
 ·have rq:p.lp.rel q≠2:=by have:=Eo oq;omega
  rw[zz oq];exact Qw ri rq h
 ·rw[vP oq]
  have:=B3 hi ri
  have:=(sL p.lp.rel p.aI p.u q).2
  omega
theorem B4(i:Nat):p.eh.A i=bZ (bZ (sC (jS p.lay (p.lp.a i) (p.aI i:Rat) p.lp.n) (p.lp.rel i) (eV p.lp.rel p.c1 i) (p.aI i:Rat)) (p.unit i) 1) p.w (p.lp.b i*(p.aI i:Rat)):=rfl
theorem Er{f:Nat→Rat}{rel slack:Int}{sg:Rat}{x:Nat}(h:rel≠2→x≠slack.toNat):sC f rel slack sg x=f x:=by
 unfold sC
 split
 ·exact eJ (h (by omega))
 ·split
  ·exact eJ (h (by omega))
  ·rfl
theorem B5{i:Nat}(hr:p.lp.rel i≠2):(eV p.lp.rel p.c1 i).toNat=bC p.lp.rel p.c1 i:=by
 unfold eV;rw[if_neg hr,Int.toNat_natCast]
theorem Qx{i x:Nat}(hx:x<p.c1):p.eh.A i x=jS p.lay (p.lp.a i) (p.aI i:Rat) p.lp.n x:=by
 have h1:=mC p
 have h2:=ft p
 have h3:=LH (p:=p) (i:=i)
 rw[B4,eJ (by omega),eJ (by omega),Er]
 intro hr
 rw[B5 hr]
 have:=(sK p.lp.rel p.c1 i).2
 omega
theorem ahd{i j:Nat}(hj:j<p.lp.n):p.eh.A i (a6 p.lp.free j)=p.lp.a i j*(p.aI i:Rat):=by
 rw[Qx (HA p hj)];exact(En (Nat.le_refl _) hj).1
theorem ahe{i j:Nat}(hj:j<p.lp.n)(hf:p.lp.free j=true):p.eh.A i (a6 p.lp.free j+1) = -(p.lp.a i j*(p.aI i:Rat)):=by
 have:=HB p hj
 unfold m6 at this
 rw[if_pos hf]at this
 rw[Qx (by omega)];exact(En (Nat.le_refl _) hj).2 hf
theorem ahf{i q:Nat}(hi:i<p.lp.m)(hv:p.lp.rel i=1∨p.lp.rel i=3):p.eh.A q (bC p.lp.rel p.c1 i)=if q=i then(if p.lp.rel i=1 then(p.aI i:Rat)else -(p.aI i:Rat))else 0:=by
 have hr:p.lp.rel i≠2:=by omega
 have h1:=B3 hi hr
 have h2:=ft p
 have h3:=(sK p.lp.rel p.c1 i).2
 rw[B4,eJ (by omega)]
 by_cases e:q=i
 ·subst e
  rw[if_pos rfl]
  by_cases o:eY (p.lp.rel q) (p.aI q)=true
  ·rw[zz o,jt]
   rcases Eo o with ⟨k1,k2⟩ | ⟨k1,k2⟩
   ·rw[if_pos k1,k2];rfl
   ·rw[if_neg (by omega),k2];grind
  ·rw[eJ (by rw[vP o];have:=(sL p.lp.rel p.aI p.u q).2;omega)]
   unfold sC
   rw[B5 hr]
   by_cases k1:p.lp.rel q=1
   ·rw[if_pos k1,if_pos k1,jt]
   ·rw[if_neg k1,if_neg k1,if_pos (by omega),jt]
 ·rw[if_neg e,eJ (Ne.symm (Yd hi hr e)),Er (fun hq=>by rw[B5 hq];exact Ne.symm (Qw hr hq e))]
  exact Em (Nat.le_refl _) h3
theorem Ye{i q:Nat}(hi:i<p.lp.m)(hq:q<p.lp.m):p.eh.A q (p.unit i)=if q=i then 1 else 0:=by
 have h1:=nO p hi
 rw[B4,eJ (by omega)]
 by_cases e:q=i
 ·subst e
  rw[if_pos rfl,jt]
 ·rw[if_neg e,eJ (Ne.symm (ahc hi hq e)),Er]
  ·exact Em (Nat.le_refl _) LH
  ·intro rq
   rw[B5 rq]
   exact Yd hq rq (Ne.symm e)
theorem Yf(i:Nat):p.eh.A i p.w=p.lp.b i*(p.aI i:Rat)∧0≤p.eh.A i p.w:=by
 have h:p.eh.A i p.w=p.lp.b i*(p.aI i:Rat):=by rw[B4,jt]
 refine⟨h,?_⟩
 rw[h]
 show 0≤p.lp.b i*((kD (p.lp.b i) (p.lp.rel i):Int):Rat)
 unfold kD
 split
 ·rename_i hc
  have:p.lp.b i≤0:=by rcases hc with hc | hc <;> grind
  show 0≤p.lp.b i*((-1:Int):Rat)
  grind
 ·rename_i hc
  have:0≤p.lp.b i:=by
   have:¬p.lp.b i<0:=fun h=>hc (.inl h)
   grind
  show 0≤p.lp.b i*((1:Int):Rat)
  grind
def _root_.Lp.Prg.ui(p:Prg)(i:Nat):Option Nat:=if p.lp.rel i=2 then none else some (bC p.lp.rel p.c1 i)
theorem Es{j:Nat}(h:j<p.lp.n):p.lay.mF j=if p.lp.free j then some (a6 p.lp.free j+1)else none:=by
 unfold TL.mF
 rw[Hz p h]
 unfold m6
 by_cases hf:p.lp.free j=true
 ·rw[if_pos hf,if_pos hf,if_pos (by omega),Int.toNat_natCast]
 ·rw[if_neg hf,if_neg hf,if_neg (by omega)]
theorem Yg{i:Nat}(h:i<p.lp.m):p.lay.uF i=p.unit i:=by
 simp[TL.uF,Prg.lay,List.getD,h]
theorem Et{i:Nat}(h:i<p.lp.m):p.lay.sF i=(p.aI i:Rat):=by
 have:p.lay.jP[i]? = some ((p.aI i:Int):Rat):=dM (f:=fun i=>(p.aI i:Rat)) h
 exact oN this
theorem ahg(f:Nat→Rat){k:Nat}(hk:k≤p.lp.n):a7 (a6 p.lp.free k) f=a7 k (fun j=>f (p.lay.pF j)+iq f (p.lay.mF j)):=by
 induction k with
 | zero=>rfl
 | succ k ih=>
  have h1:a6 p.lp.free (k+1)=a6 p.lp.free k+1+(if p.lp.free k then 1 else 0):=rfl
  rw[gq,←ih (by omega),zy p (by omega),Es (by omega)]
  by_cases hf:p.lp.free k=true
  ·rw[if_pos hf]at h1⊢
   rw[h1,gq,gq]
   simp only[iq];grind
  ·rw[if_neg hf]at h1⊢
   rw[h1,Nat.add_zero,gq]
   simp only[iq];grind
theorem ahh(f:Nat→Rat)(k:Nat):a7 (bC p.lp.rel p.c1 k) f=a7 p.c1 f+a7 k (fun i=>iq f (p.ui i)):=by
 induction k with
 | zero=>rw[DL,Rat.add_zero];rfl
 | succ k ih=>
  have h1:bC p.lp.rel p.c1 (k+1)=bC p.lp.rel p.c1 k+(if p.lp.rel k=2 then 0 else 1):=rfl
  rw[gq]
  by_cases hr:p.lp.rel k=2
  ·rw[if_pos hr]at h1
   have:p.ui k=none:=by unfold Prg.ui;rw[if_pos hr]
   rw[h1,Nat.add_zero,this,ih]
   simp only[iq];grind
  ·rw[if_neg hr]at h1
   have:p.ui k=some (bC p.lp.rel p.c1 k):=by unfold Prg.ui;rw[if_neg hr]
   rw[h1,this,gq,ih]
   simp only[iq];grind
theorem LI(bO:p.Ok):dL p.lp p.eh.A p.w p.u p.lay.pF p.lay.mF p.ui p.lay.uF p.lay.sF where
 valid:=bO.valid
 uw:=ft p
 V5 i hi:=by
  rw[Et hi]
  rcases sJ (p.lp.b i) (p.lp.rel i)with h | h
  ·left;show ((kD _ _:Int):Rat)=1;rw[h];rfl
  ·right;show ((kD _ _:Int):Rat) = -1;rw[h];rfl
 rhs i hi:=by rw[Et hi];exact Yf i
 pl j hj:=by
  rw[zy p hj]
  refine⟨Nat.lt_of_lt_of_le (HA p hj) (mC p),fun i hi=> ?_⟩
  rw[Et hi];exact ahd hj
 mi j hj:=by
  rw[Es hj]
  refine⟨fun h=>by rw[h];rfl,fun k hk=> ?_⟩
  by_cases hf:p.lp.free j=true
  ·rw[if_pos hf]at hk
   cases hk
   have h1:=HB p hj
   unfold m6 at h1
   rw[if_pos hf]at h1
   have h2:=mC p
   refine⟨by omega,fun i hi=> ?_⟩
   rw[Et hi];exact ahe hj hf
  ·rw[if_neg hf]at hk;cases hk
 Pk j hj hf:=by
  rw[Es hj,if_pos hf];exact⟨_,rfl⟩
 sl i hi:=by
  refine⟨fun h=>by unfold Prg.ui;rw[if_pos h],fun h=>⟨_,by unfold Prg.ui;rw[if_neg h]⟩,fun k hk=> ?_⟩
  unfold Prg.ui at hk
  by_cases hr:p.lp.rel i=2
  ·rw[if_pos hr]at hk;cases hk
  ·rw[if_neg hr]at hk
   cases hk
   refine⟨B3 hi hr,fun q hq=> ?_⟩
   rw[Et hi]
   exact ahf hi (by have:=bO.valid i hi;omega)
 un i hi:=by
  rw[Yg hi]
  exact⟨nO p hi,fun q hq=>Ye hi hq⟩
 sum f:=by
  have h1:p.u=bC p.lp.rel p.c1 p.lp.m:=rfl
  rw[h1,ahh,show p.c1=a6 p.lp.free p.lp.n from rfl,ahg f (Nat.le_refl _)]
theorem oW:p.lay.Ok p.lp.n p.lp.m where
 Lf:=by simp[Prg.lay]
 Lg:=by simp[Prg.lay]
 PN:=by simp[Prg.lay]
 PO:=bB _ _
 pw j hj:=by
  rw[zy p hj]
  have:=HA p hj;have:=mC p;have:=ft p
  show _<p.w;omega
 mw j hj:=by
  rw[Hz p hj]
  have:=HB p hj;have:=mC p;have:=ft p
  show _<((p.w:Nat):Int);omega
 uw i hi:=by rw[Yg hi];exact nO p hi
 s1 i hi:=by rw[Et hi];exact Yc (sJ _ _)
theorem ahi:p.eh.WF where
 lt i hi:=nO p hi
 unit i k hi hk:=Ye hi hk
 zero i hi:=rfl
theorem ahj:p.eh.jO:=fun i _=>(Yf i).2
theorem ahk:av.Rows p.eh.A p.lp.m p.w p.eh:=av.afn (fun _ _=>rfl) rfl rfl
end
end Go.aq
namespace Go.aq
open Go.Proofs Num Lp
theorem LJ{D X:Nat}{q:Rat}(D':Nat)(h:av.fo D X q):av.fo (D*D') (X*D') q:=by
 obtain⟨z,h1,h2⟩:=h
 refine⟨z*D',?_,?_⟩
 ·rw[Rat.natCast_mul,Rat.intCast_mul,←h1]
  have:((D':Int):Rat)=(D':Rat):=rfl
  rw[this];grind
 ·rw[Int.natAbs_mul,Int.natAbs_natCast];exact Nat.mul_le_mul_right _ h2
theorem ahl{D D' X Y:Nat}{q r:Rat}(h:av.fo D X q)(k:av.fo D' Y r):av.fo (D*D') (X*Y) (q*r):=by
 obtain⟨z,h1,h2⟩:=h
 obtain⟨y,k1,k2⟩:=k
 refine⟨z*y,?_,?_⟩
 ·rw[Rat.natCast_mul,Rat.intCast_mul,←h1,←k1];grind
 ·rw[Int.natAbs_mul];exact Nat.mul_le_mul h2 k2
theorem Qy{T:av}{f:Nat→Rat}{D D' X Y k j:Nat}(hB:∀i,i<T.m→T.B i<T.n)(hf:∀j,j<T.n→av.fo D X (f j))(hA:∀i,i<T.m→av.fo D' Y (T.A i j))(hk:k≤T.m)(hj:j≤T.n):
  av.fo (D*D') (X*D'+k*(X*Y)) (gK T f k j):=by
 unfold gK
 refine av.fo.sub ?_ (av.afU k _ fun i hi=>ahl (hf _ (hB i (by omega))) (hA i (by omega)))
 split
 ·exact av.K4 _ _
 ·exact LJ _ (hf j (by omega))
theorem ahm(e:Nat):2^e<B^(e+1):=by
 have h1:2^(e+1)≤B^(e+1):=Nat.pow_le_pow_left (by decide) _
 have h2:2^e<2^(e+1):=Nat.pow_lt_pow_right (by decide) (by omega)
 omega
theorem HD{D X e:Nat}{q:Rat}(hD:0<D)(h:av.fo D X q)(h1:D≤2^e)(h2:X≤2^e):aN q≤e+1:=by
 have h3:=av.afP hD h
 have h4:=ahm e
 unfold aN
 rw[Nat.max_le,iZ,iZ]
 omega
theorem HE{D D0 n j e f:Nat}(hD:D≤2^e)(h0:D0≤2^f):D*av.lP n j D0 1≤2^(e+f)∧2^(e+av.lP n j f 0)≤2^(e+f):=by
 have h1:(1:Nat)≤2^f:=Nat.one_le_two_pow
 unfold av.lP
 split
 ·exact⟨by rw[Nat.pow_add];exact Nat.mul_le_mul hD h0,Nat.le_refl _⟩
 ·exact⟨by rw[Nat.pow_add];exact Nat.mul_le_mul hD h1,Nat.pow_le_pow_right (by decide) (by omega)⟩
theorem Qz{D D0 n j:Nat}(hD:0<D)(h0:0<D0):0<D*av.lP n j D0 1:=Nat.mul_pos hD (by unfold av.lP;split <;> omega)
theorem ahn{D0 f e:Nat}{T:av}(h:av.Bd D0 f e T)(p0:0<D0)(h0:D0≤2^f):Sz (e+f+1) T:=by
 obtain⟨D,h1,h2,h3,h4⟩:=h
 exact⟨fun i hi j hj=>HD (Qz h1 p0) (h3 i hi j hj) (HE h2 h0).1 (HE (j:=j) (n:=T.n) h2 h0).2,fun j hj=>HD (Qz h1 p0) (h4 j hj) (HE h2 h0).1 (HE (j:=j) (n:=T.n) h2 h0).2⟩
def In(l:List Rat)(p:Prg):Prop:=∀i,i<p.lp.m→∀j,j<p.lp.n→p.lp.a i j∈l
structure HF(D0 f:Nat)(p:Prg):Prop where
 pos:0<D0
 le:D0≤2^f
 b:∀i,i<p.lp.m→av.fo D0 (2^f) (p.lp.b i)
theorem Eu{P:Rat→Prop}{f:Nat→Rat}{k:Nat}{q:Rat}(hf:∀j,P (f j))(hq:P q):∀j,P (bZ f k q j):=fun j=>by
 unfold bZ;split
 ·exact hq
 ·exact hf j
abbrev CM(l:List Rat)(q:Rat):Prop:=av.fo (av.iN l) (2^(2*av.ig l)) q
section
variable {p:Prg} {l:List Rat}
theorem Yh{D X:Nat}{q:Rat}{s:Int}(h:av.fo D X q)(hs:s=1∨s = -1):av.fo D X (q*(s:Rat)):=by
 rcases hs with e | e
 ·rw[e,show q*((1:Int):Rat)=q by grind];exact h
 ·rw[e,show q*((-1:Int):Rat) = -q by grind];exact h.neg
theorem Yi:CM l 1:=av.WA l 1 (by decide)
theorem Yj{s:Int}(hs:s=1∨s = -1):CM l (s:Rat):=av.WA l s (by omega)
theorem Yk{a:Nat→Rat}{s:Int}(hs:s=1∨s = -1)(k:Nat)(ha:∀j,j<k→CM l (a j))(L:TL):∀j,CM l (jS L a (s:Rat) k j):=by
 induction k with
 | zero=>exact fun j=>av.K4 _ _
 | succ k ih=>
  have vg:=ih (fun j hj=>ha j (by omega))
  have h1:=Yh (ha k (by omega)) hs
  intro j
  rw[BV]
  split
  ·exact Eu (Eu vg h1) h1.neg j
  ·exact Eu vg h1 j
theorem QA(h:In l p){i:Nat}(hi:i<p.lp.m){j:Nat}(hj:j≠p.w):CM l (p.eh.A i j):=by
 have hs:=sJ (p.lp.b i) (p.lp.rel i)
 rw[B4,eJ hj]
 refine Eu (fun j=> ?_) Yi j
 have h1:=Yk (l:=l) (L:=p.lay) hs p.lp.n (fun j hj=>av.Pz (h i hi j hj))
 unfold sC
 split
 ·exact Eu h1 (Yj hs) j
 ·split
  ·exact Eu h1 (Yj hs).neg j
  ·exact h1 j
theorem QB{D0 f:Nat}(h:HF D0 f p){i:Nat}(hi:i<p.lp.m):av.fo D0 (2^f) (p.eh.A i p.w):=by
 rw[B4,jt]
 exact Yh (h.b i hi) (sJ (p.lp.b i) (p.lp.rel i))
def pW(T:av)(c0:Nat→Rat):av:={T with c:=gK T c0 T.m}
structure Inv(p:Prg)(c0:Nat→Rat)(S:av):Prop where
 wf:S.WF
 fm:S.jO
 rows:av.Rows p.eh.A p.lp.m p.w S
 off:dL.tS p.eh.A p.lp.m p.w c0 S.c
theorem aho{T:av}{c0:Nat→Rat}(hB:∀i,i<T.m→T.B i<T.n)(hu:∀i k,i<T.m→k<T.m→T.A k (T.B i)=if k=i then 1 else 0){i:Nat}(hi:i<T.m):gK T c0 T.m (T.B i)=0:=by
 unfold gK
 have h1:=hB i hi
 rw[if_neg (by omega),tQ hi _ (fun k hk bo=>by rw[hu i k hi hk,if_neg bo];grind),hu i i hi hi,if_pos rfl]
 grind
theorem Inv.Yl{S:av}{c0:Nat→Rat}(h0:c0 p.w=0)(hW:S.WF)(hF:S.jO)(hR:av.Rows p.eh.A p.lp.m p.w S):Inv p c0 (pW S c0):=by
 have dO:av.Rows p.eh.A p.lp.m p.w (pW S c0):=⟨hR.m,hR.n,hR.mul,hR.nI⟩
 refine⟨⟨hW.lt,hW.unit,fun i hi=>aho hW.lt hW.unit hi⟩,hF,dO,hR.off c0 (fun i=>c0 (S.B i)) fun j hj=> ?_⟩
 show gK S c0 S.m j=_
 unfold gK
 rw[hR.m,hR.n]
 by_cases e:j=p.w
 ·rw[if_pos e,e,h0]
 ·rw[if_neg e]
theorem Inv.step{S:av}{c0:Nat→Rat}(h:Inv p c0 S){u r s:Nat}(hu:u≤S.n)(hb:S.oL u r s):Inv p c0 (S.pivot r s):=by
 have hp:S.A r s≠0:=by have:=hb.pos;grind
 have hs:=hb.su
 have hr:=hb.rm
 exact⟨av.Bs h.wf hr (by omega) hp,av.Gi h.fm hb,h.rows.pivot (by rw[←h.rows.m];exact hr) hp,h.rows.Pn h.off (by rw[←h.rows.m];exact hr)⟩
theorem Inv.same{S T:av}{c0:Nat→Rat}(h:Inv p c0 S)(h':Inv p c0 T):av.Same S T:=
 ⟨by rw[h.rows.m,h'.rows.m],by rw[h.rows.n,h'.rows.n],fun x=>by rw[h.rows.nI,h'.rows.nI],fun x hx=>by
  rw[h.rows.cost h.off hx,h'.rows.cost h'.off ((h'.rows.nI x).2 ((h.rows.nI x).1 hx))]⟩
theorem Ym(m:Nat):m+1≤2^m:=by
 induction m with
 | zero=>decide
 | succ m ih=>rw[Nat.pow_succ];omega
theorem ahp{D0 f:Nat}(h:In l p)(hb:HF D0 f p){c0:Nat→Rat}(hc:∀j,j<p.w→CM l (c0 j)):av.Bd D0 f (4*av.ig l+p.lp.m) (pW p.eh c0):=by
 have hD:=av.K3 l
 have QC:=av.DV l
 have hm:=Ym p.lp.m
 generalize sO:2^(2*av.ig l)=X at *
 have hX:1≤X:=by rw[←sO];exact Nat.one_le_two_pow
 have LK:av.iN l≤X:=by rw[←sO];exact Nat.le_trans QC (Nat.pow_le_pow_right (by decide) (by omega))
 have p2:2^(4*av.ig l+p.lp.m)=X*X*2^p.lp.m:=by rw[←sO,←Nat.pow_add,←Nat.pow_add];congr 1;omega
 have Yn:av.iN l*av.iN l≤X*X:=Nat.mul_le_mul LK LK
 have hXD:X*av.iN l≤X*X:=Nat.mul_le_mul_left _ LK
 have hM:∀x,x≤X*X→x≤2^(4*av.ig l+p.lp.m):=fun x hx=>by
  rw[p2];exact Nat.le_trans hx (Nat.le_mul_of_pos_right _ (by omega))
 have tx:∀{q},CM l q→av.fo (av.iN l) X q:=fun{q} h=>by rw[←sO];exact h
 have oh:(pW p.eh c0).n=p.w:=rfl
 refine⟨av.iN l*av.iN l,Nat.mul_pos hD hD,hM _ Yn,fun i hi j hj=> ?_,fun j hj=> ?_⟩
 ·by_cases e:j=p.w
  ·subst e
   rw[←oh,av.K1,av.K1,Nat.mul_comm,oh]
   refine(LJ (av.iN l*av.iN l) (QB hb hi)).mono ?_
   rw[Nat.pow_add,Nat.mul_comm]
   exact Nat.mul_le_mul_right _ (hM _ Yn)
  ·rw[av.DT (by rw[oh]at hj⊢;omega),av.DT (by rw[oh]at hj⊢;omega),Nat.mul_one]
   exact(LJ _ (tx (QA h hi e))).mono (hM _ hXD)
 ·by_cases e:j=p.w
  ·subst e
   rw[←oh,av.K1,av.K1,oh]
   have h1:=LJ (av.iN l) (Qy (T:=p.eh) (k:=p.lp.m) (j:=p.w) (fun i hi=>nO p hi) (fun j hj=>tx (hc j hj)) (fun i hi=>QB hb hi) (Nat.le_refl _) hj)
   rw[show av.iN l*av.iN l*D0=av.iN l*D0*av.iN l by rw[Nat.mul_assoc,Nat.mul_assoc,Nat.mul_comm D0]]
   refine h1.mono ?_
   have h2:X*D0≤X*2^f:=Nat.mul_le_mul_left _ hb.le
   have h3:X*D0+p.lp.m*(X*2^f)≤(p.lp.m+1)*(X*2^f):=by rw[Nat.succ_mul p.lp.m];omega
   refine Nat.le_trans (Nat.mul_le_mul h3 LK) ?_
   rw[Nat.pow_add,p2]
   have e4:(p.lp.m+1)*(X*2^f)*X=X*X*(p.lp.m+1)*2^f:=by
    rw[Nat.mul_comm _ X,Nat.mul_left_comm (p.lp.m+1) X,←Nat.mul_assoc,Nat.mul_assoc (X*X)]
   rw[e4]
   exact Nat.mul_le_mul_right _ (Nat.mul_le_mul_left _ hm)
  ·rw[av.DT (by rw[oh]at hj⊢;omega),av.DT (by rw[oh]at hj⊢;omega),Nat.mul_one]
   refine(Qy (T:=p.eh) (k:=p.lp.m) (fun i hi=>nO p hi) (fun j hj=>tx (hc j hj)) (fun i hi=>tx (QA h hi e)) (Nat.le_refl _) hj).mono ?_
   rw[Nat.add_zero,p2]
   refine Nat.le_trans (m:=(p.lp.m+1)*(X*X)) ?_ (by rw[Nat.mul_comm];exact Nat.mul_le_mul_left _ hm)
   rw[Nat.succ_mul p.lp.m];omega
def uj(l:List Rat)(k m:Nat):Nat:=2^k*(4*av.ig l+m+1)
def bits(l:List Rat)(k m f:Nat):Nat:=uj l k m+f
theorem Inv.base{c0:Nat→Rat}(h0:c0 p.w=0):Inv p c0 (pW p.eh c0):=Inv.Yl h0 ahi ahj ahk
def HG(p:Prg)(k:Nat):Prop:=p.lp.m≤k∨p.w≤p.lp.m+k
theorem Inv.bd{D0 f k:Nat}{S:av}{c0:Nat→Rat}(h:Inv p c0 S)(hl:In l p)(hb:HF D0 f p)(hk:HG p k)(h0:c0 p.w=0)(hc:∀j,j<p.w→CM l (c0 j)):av.Bd D0 f (uj l k p.lp.m-1) S:=by
 refine av.afM (Inv.base h0).wf h.wf ((Inv.base h0).same h) (ahp hl hb hc) ?_
 rcases hk with hk | hk
 ·exact Nat.le_trans (av.afN _ _) (by rw[h.rows.m];exact hk)
 ·have h1:=av.afO (Inv.base h0).wf h.wf ((Inv.base h0).same h)
  have h2:(pW p.eh c0).n=p.w:=rfl
  have h3:(pW p.eh c0).m=p.lp.m:=rfl
  omega
theorem HH(l:List Rat)(k m:Nat):2*av.ig l+m+1≤uj l k m:=by
 unfold uj
 have h1:1≤2^k:=Nat.one_le_two_pow
 have h2:1*(4*av.ig l+m+1)≤2^k*(4*av.ig l+m+1):=Nat.mul_le_mul_right _ h1
 omega
theorem Inv.sz{D0 f k:Nat}{S:av}{c0:Nat→Rat}(h:Inv p c0 S)(hl:In l p)(hb:HF D0 f p)(hk:HG p k)(h0:c0 p.w=0)(hc:∀j,j<p.w→CM l (c0 j)):Sz (bits l k p.lp.m f) S:=by
 have h1:=ahn (h.bd hl hb hk h0 hc) hb.pos hb.le
 have h2:=HH l k p.lp.m
 rwa [show uj l k p.lp.m-1+f+1=bits l k p.lp.m f by unfold bits;omega]at h1
theorem QD{q:Rat}(h:CM l q)(k m f:Nat):aN q≤bits l k m f:=by
 have h2:=HH l k m
 refine Nat.le_trans (HD (e:=2*av.ig l) (av.K3 l) h ?_ (Nat.le_refl _)) (by unfold bits;omega)
 exact Nat.le_trans (av.DV l) (Nat.pow_le_pow_right (by decide) (by omega))
theorem Yo{D0 f k:Nat}{S:av}{c1:Nat→Rat}(hB:∀i,i<S.m→S.B i<S.n)(hm:S.m=p.lp.m)(hn:S.n=p.w)(hb:av.Bd D0 f (uj l k p.lp.m-1) S)(p0:0<D0)(h0:D0≤2^f)(hc:∀j,j<p.w→CM l (c1 j)):∀k',k'≤S.m→∀j,j≤S.n→aN (gK S c1 k' j)≤2*bits l k p.lp.m f:=by
 intro k' hk j hj
 obtain⟨D,h1,h2,h3,_⟩:=hb
 have hbp:=HH l k p.lp.m
 have hD:=av.K3 l
 have QC:=av.DV l
 obtain⟨q1,q2⟩:=HE (j:=j) (n:=S.n) h2 h0
 have key:=Qy hB (fun j hj=>hc j (by omega)) (fun i hi=>h3 i hi j hj) hk hj
 refine Nat.le_trans (HD (e:=2*av.ig l+(uj l k p.lp.m-1+f)+p.lp.m) (Nat.mul_pos hD (Qz h1 p0)) key ?_ ?_) (by unfold bits;omega)
 ·refine Nat.le_trans (Nat.mul_le_mul QC q1) ?_
  rw[←Nat.pow_add]
  exact Nat.pow_le_pow_right (by decide) (by omega)
 ·rw[Nat.pow_add _ _ p.lp.m,Nat.pow_add 2 (2*av.ig l) (uj l k p.lp.m-1+f)]
  generalize 2^(uj l k p.lp.m-1+f)=Z at *
  have g1:2^(2*av.ig l)*(D*av.lP S.n j D0 1)≤2^(2*av.ig l)*Z:=Nat.mul_le_mul_left _ q1
  have g3:k'*(2^(2*av.ig l)*2^(uj l k p.lp.m-1+av.lP S.n j f 0))≤k'*(2^(2*av.ig l)*Z):=Nat.mul_le_mul_left _ (Nat.mul_le_mul_left _ q2)
  have g2:=Ym p.lp.m
  refine Nat.le_trans (m:=(k'+1)*(2^(2*av.ig l)*Z)) (by rw[Nat.succ_mul k',Nat.add_comm];exact Nat.add_le_add g3 g1) ?_
  rw[Nat.mul_comm];exact Nat.mul_le_mul_left _ (by omega)
end
end Go.aq
namespace Go.aq
open Go.Proofs Num Lp
section
variable {p:LP}
theorem LL{n:Nat}{a x x':Nat→Rat}(h:∀j,j<n→x j=x' j):cJ n a x=cJ n a x':=afh (fun _ _=>rfl) h
theorem ib.congr{t:Rat}{x x':Nat→Rat}(h:∀j,j<p.n→x j=x' j)(hm:p.ib t x):p.ib t x':=
 ⟨fun j hj hf=>by rw[←h j hj];exact hm.1 j hj hf,fun i hi=>by rw[←LL h];exact hm.2 i hi⟩
theorem Signed.congr{y y':Nat→Rat}(h:∀i,i<p.m→y i=y' i)(hm:p.Signed y):p.Signed y':=fun i hi=>by rw[←h i hi];exact hm i hi
theorem Yp{y y':Nat→Rat}(h:∀i,i<p.m→y i=y' i)(j:Nat):p.kv y j=p.kv y' j:=eM fun i hi=>by rw[h i hi]
theorem Yq{y y':Nat→Rat}(h:∀i,i<p.m→y i=y' i):p.xh y=p.xh y':=eM fun i hi=>by rw[h i hi]
theorem zd.congr{c x x' y y':Nat→Rat}(hx:∀j,j<p.n→x j=x' j)(hy:∀i,i<p.m→y i=y' i)(h:p.zd c x y):p.zd c x' y':=
 ⟨ib.congr hx h.fm,Signed.congr hy h.signed,fun j hj=>by rw[←Yp hy];exact h.pM j hj,by rw[←Yq hy,←LL hx];exact h.eq⟩
theorem ze.congr{y y':Nat→Rat}(hy:∀i,i<p.m→y i=y' i)(h:p.ze y):p.ze y':=
 ⟨Signed.congr hy h.signed,fun j hj=>by rw[←Yp hy];exact h.pM j hj,by rw[←Yq hy];exact h.pos⟩
theorem zf.congr{c x x' r r':Nat→Rat}(hx:∀j,j<p.n→x j=x' j)(hr:∀j,j<p.n→r j=r' j)(h:p.zf c x r):p.zf c x' r':=
 ⟨ib.congr hx h.fm,ib.congr hr h.oM,by rw[←LL hr];exact h.neg⟩
end
section
variable {p:Prg} {l c:List Rat} {T:av}
abbrev pn(p:Prg):Nat→Rat:=av.jq p.u p.w
abbrev kf(p:Prg)(c:List Rat):Nat→Rat:=jS p.lay (fn c) 1 p.lp.n
theorem B6:pn p p.w=0:=av.Wf _ _
theorem HI(j:Nat):CM l (pn p j):=by
 show CM l (av.jq _ _ _)
 unfold av.jq;split
 ·exact Yi
 ·exact av.K4 _ _
theorem LM:av.Gm p.lp p.w p.lay.pF p.lay.mF p.ui (fn c) (kf p c) where
 pl j hj:=by rw[zy p hj];show jS p.lay (fn c) 1 p.lp.n _=_;rw[(En (Nat.le_refl _) hj).1];grind
 mi j hj k hk:=by
  rw[Es hj]at hk
  by_cases hf:p.lp.free j=true
  ·rw[if_pos hf]at hk;cases hk
   show jS p.lay (fn c) 1 p.lp.n _=_
   rw[(En (Nat.le_refl _) hj).2 hf];grind
  ·rw[if_neg hf]at hk;cases hk
 sl i hi k hk:=by
  unfold Prg.ui at hk
  split at hk
  ·cases hk
  ·cases hk
   exact Em (Nat.le_refl _) (sK _ _ _).2
 last:=Em (Nat.le_refl _) (Nat.le_trans (mC p) (ft p))
theorem LN:kf p c p.w=0:=(LM (p:=p) (c:=c)).last
theorem QE(hc:∀j,j<p.lp.n→fn c j∈l)(j:Nat):CM l (kf p c j):=by
 have:=Yk (l:=l) (a:=fn c) (s:=1) (.inl rfl) p.lp.n (fun j hj=>av.Pz (hc j hj)) p.lay j
 exact this
theorem Yr(bO:p.Ok)(h:Inv p (pn p) T)(hn:∀j,j<p.u→0≤T.c j)(fV:T.c p.w<0):Wo p (aK (fun i=>p.lay.sF i*(pn p (p.lay.uF i)-T.c (p.lay.uF i))) p.lp.m):=
 ⟨bO,bB _ _,ze.congr (fun i hi=>(DW hi).symm) (dL.afm (LI bO) h.off (fun j hj=>av.Pp hj) B6 hn fV)⟩
theorem Ys(h:Inv p (pn p) T)(hv:¬T.c p.w<0):av.Clean p.u 0 T:=
 av.Clean.start (av.Wg h.wf h.fm h.rows h.off (by grind)).2
theorem Yt(h:Inv p (pn p) T){s:Nat}(hs:s<p.u)(fV:T.c s<0)(hA:∀i,i<T.m→T.A i s≤0):False:=
 av.afq h.wf h.rows h.off (Nat.lt_of_lt_of_le hs (ft p)) fV hA
def Jx(p:Prg)(k:Nat)(S:av):Prop:=Inv p (pn p) S∧av.Clean p.u k S
theorem Jx.skip{k:Nat}(h:Jx p k T)(hk:T.B k<p.u∨∀j,j<p.u→T.A k j=0):Jx p (k+1) T:=⟨h.1,h.2.skip hk⟩
theorem Jx.pivot{k s:Nat}(h:Jx p k T)(hk:k<T.m)(hu:p.u≤T.B k)(hs:s<p.u)(hp:T.A k s≠0):Jx p (k+1) (T.pivot k s):=by
 have mA:=ft p
 have hm:k<p.lp.m:=by rw[←h.1.rows.m];exact hk
 exact⟨⟨av.Bs h.1.wf hk (by rw[h.1.rows.n];omega) hp,h.2.fm h.1.fm hk hu s,h.1.rows.pivot hm hp,h.1.rows.Pn h.1.off hm⟩,h.2.afs hk hu hs⟩
def I2(p:Prg)(c:List Rat)(S:av):Prop:=Inv p (kf p c) S∧av.Clean p.u S.m S
theorem I2.start(h:Jx p p.lp.m T):I2 p c (pW T (kf p c)):=by
 have hc:=h.2
 rw[←h.1.rows.m]at hc
 exact⟨Inv.Yl LN h.1.wf h.1.fm h.1.rows,⟨hc.zero,hc.row⟩⟩
theorem I2.step{r s:Nat}(h:I2 p c T)(hb:T.oL p.u r s):I2 p c (T.pivot r s):=
 ⟨h.1.step (by rw[h.1.rows.n];exact ft p) hb,h.2.Gl hb⟩
theorem Yu(bO:p.Ok)(fh:c.length=p.free.length)(h:I2 p c T)(hn:∀j,j<p.u→0≤T.c j):
  Pq p c (aK (dL.vec p.lay.pF p.lay.mF T.pt) p.lp.n) (aK (fun i=>p.lay.sF i*(kf p c (p.lay.uF i)-T.c (p.lay.uF i))) p.lp.m)∧-(T.c p.w)=cJ p.free.length (fn c) (fn (aK (dL.vec p.lay.pF p.lay.mF T.pt) p.lp.n)):=by
 have h1:=av.aft (LI bO) h.1.wf h.1.fm h.1.rows h.2 LM h.1.off hn
 have h2:=zd.congr (x':=fn (aK (dL.vec p.lay.pF p.lay.mF T.pt) p.lp.n)) (y':=fn (aK (fun i=>p.lay.sF i*(kf p c (p.lay.uF i)-T.c (p.lay.uF i))) p.lp.m)) (fun j hj=>(DW hj).symm) (fun i hi=>(DW hi).symm) h1
 refine⟨⟨⟨bO,bB _ _,h2.fm⟩,fh,bB _ _,h2⟩,?_⟩
 rw[←av.Wl (LI bO) h.1.wf h.1.rows h.2 LM h.1.off]
 exact LL (n:=p.lp.n) fun j hj=>(DW hj).symm
theorem Yv(bO:p.Ok)(fh:c.length=p.free.length)(h:I2 p c T){s:Nat}(hs:s<p.u)(fV:T.c s<0)(hA:∀i,i<T.m→T.A i s≤0):
  Wp p c (aK (dL.vec p.lay.pF p.lay.mF T.pt) p.lp.n) (aK (dL.vec p.lay.pF p.lay.mF (T.dir s)) p.lp.n):=by
 have h1:=av.afu (LI bO) h.1.wf h.1.fm h.1.rows h.2 LM h.1.off hs fV hA
 have h2:=zf.congr (x':=fn (aK (dL.vec p.lay.pF p.lay.mF T.pt) p.lp.n)) (r':=fn (aK (dL.vec p.lay.pF p.lay.mF (T.dir s)) p.lp.n)) (fun j hj=>(DW hj).symm) (fun j hj=>(DW hj).symm) h1
 exact⟨⟨bO,bB _ _,h2.fm⟩,fh,bB _ _,h2⟩
theorem QF{N:Nat}(hW:T.WF)(hz:Sz N T)(h0:1≤N){j:Nat}(hj:j<T.n):aN (T.pt j)≤N:=by
 by_cases h:∃i,i<T.m∧T.B i=j
 ·obtain⟨i,hi,rfl⟩:=h
  rw[av.Wa hW hi];exact hz.A i hi _ (Nat.le_refl _)
 ·rw[av.Wc hj (fun i hi e=>absurd ⟨i,hi,e⟩ h)]
  exact Nat.le_trans (by decide) h0
theorem Yw{N:Nat}(hW:T.WF)(hz:Sz N T)(h0:1≤N){s j:Nat}(hs:s≤T.n)(Ea:∀i,i<T.m→T.B i≠s):aN (T.dir s j)≤N:=by
 unfold av.dir
 by_cases e:j=s
 ·subst e
  rw[if_pos rfl,lM (fun i hi=>by rw[if_neg (Ea i hi)]),show (1:Rat)-0=1 by grind]
  exact Nat.le_trans (by decide) h0
 ·rw[if_neg e]
  by_cases h:∃i,i<T.m∧T.B i=j
  ·obtain⟨i,hi,rfl⟩:=h
   rw[tQ hi _ (fun k hk bo=>by rw[if_neg (fun e'=>bo (hW.inj hk hi e'))]),if_pos rfl,show (0:Rat)-T.A i s = -(T.A i s) by grind,wZ]
   exact hz.A i hi s hs
  ·rw[lM (fun i hi=>by rw[if_neg (fun e'=>h ⟨i,hi,e'⟩)]),show (0:Rat)-0=0 by grind]
   exact Nat.le_trans (by decide) h0
theorem Yx(hW:T.WF){s:Nat}(fV:T.c s<0):∀i,i<T.m→T.B i≠s:=fun i hi e=>by
 have:=hW.zero i hi
 rw[e]at this;grind
end
structure Fits(p:Prg)(c:List Rat)(M:Nat):Prop where
 one:1≤M
 pn:∀j,aN (pn p j)≤M
 kf:∀j,aN (kf p c j)≤M
 tab:∀i,i<p.lp.m→∀j,aN (p.eh.A i j)≤M
 B7:∀S,Inv p (aq.pn p) S→Sz M S
 qj:∀S,Inv p (aq.kf p c) S→Sz M S
 QG:∀k,k≤p.lp.m→∀j,j≤p.w→aN (gK (pW p.eh (aq.pn p)) (aq.pn p) k j)≤2*M
 QH:∀S,Inv p (aq.pn p) S→∀k,k≤S.m→∀j,j≤S.n→aN (gK S (aq.kf p c) k j)≤2*M
section
variable {p:Prg} {l c:List Rat} {D0 f k:Nat}
theorem ahq(hl:In l p)(FI:∀j,j<p.lp.n→fn c j∈l)(hb:HF D0 f p)(hk:HG p k):Fits p c (bits l k p.lp.m f) where
 one:=by have:=HH l k p.lp.m;unfold bits;omega
 pn j:=QD (HI j) _ _ _
 kf j:=QD (QE FI j) _ _ _
 tab i hi j:=by
  by_cases e:j=p.w
  ·subst e
   refine Nat.le_trans (HD (e:=f) hb.pos (QB hb hi) hb.le (Nat.le_refl _)) ?_
   have:=HH l k p.lp.m;unfold bits;omega
  ·exact QD (QA hl hi e) _ _ _
 B7 S h:=h.sz hl hb hk B6 fun j _=>HI j
 qj S h:=h.sz hl hb hk LN fun j _=>QE FI j
 QG:=Yo (fun i hi=>nO p hi) rfl rfl ((Inv.base B6).bd hl hb hk B6 fun j _=>HI j) hb.pos hb.le fun j _=>HI j
 QH S h:=Yo h.wf.lt h.rows.m h.rows.n (h.bd hl hb hk B6 fun j _=>HI j) hb.pos hb.le fun j _=>QE FI j
end
end Go.aq
