/- Part 8 of the proof: Lay1, Mz, Mz2. -/
import Derived.Test.YtfjncmjbhfdnpaaGreatA07
set_option linter.unusedVariables false
namespace Go.au
open Go.Proofs Num Lp
theorem jE(f:Nat→Rat)(k:Nat)(v:Rat):bV f k v k=v:=by simp[bV]
theorem eF{f:Nat→Rat}{k j:Nat}{v:Rat}(h:j≠k):bV f k v j=f j:=by simp[bV,h]
section
variable {p:Prg}
theorem En{a:Nat→Rat}{sg:Rat}{k x:Nat}(hk:k≤p.lp.n)(hx:aW p.lp.free k≤x):ke p.lay a sg k x=0:=by
 induction k with
 | zero=>rfl
 | succ k ih=>
  have h1:aW p.lp.free (k+1)=aW p.lp.free k+1+(if p.lp.free k then 1 else 0):=rfl
  rw[BS,zt p (by omega),HM p (by omega)]
  unfold mN
  by_cases hf:p.lp.free k=true
  ·rw[if_pos hf]at h1
   rw[if_pos hf,if_pos (by omega),eF (by rw[Int.toNat_natCast];omega),eF (by omega)]
   exact ih (by omega) (by omega)
  ·rw[if_neg hf]at h1
   rw[if_neg hf,if_neg (by omega),eF (by omega)]
   exact ih (by omega) (by omega)
theorem Eo{a:Nat→Rat}{sg:Rat}{k j:Nat}(hk:k≤p.lp.n)(hj:j<k):ke p.lay a sg k (aW p.lp.free j)=a j*sg∧(p.lp.free j=true→ke p.lay a sg k (aW p.lp.free j+1) = -(a j*sg)):=by
 induction k with
 | zero=>omega
 | succ k ih=>
  rw[BS,zt p (by omega),HM p (by omega)]
  unfold mN
  by_cases e:j=k
  ·subst e
   by_cases hf:p.lp.free j=true
   ·rw[if_pos hf,if_pos (by omega),Int.toNat_natCast]
    refine⟨?_,fun _=>jE _ _ _⟩
    rw[eF (by omega),jE]
   ·rw[if_neg hf,if_neg (by omega),jE]
    exact⟨rfl,fun h=>absurd h hf⟩
  ·have hm:=BW (fr:=p.lp.free) (show j<k by omega)
   have uP:=ih (by omega) (by omega)
   by_cases hf:p.lp.free k=true
   ·rw[if_pos hf,if_pos (by omega),Int.toNat_natCast]
    refine⟨?_,fun h=> ?_⟩
    ·rw[eF (by omega),eF (by omega)];exact uP.1
    ·rw[if_pos h]at hm
     rw[eF (by omega),eF (by omega)];exact uP.2 h
   ·rw[if_neg hf,if_neg (by omega)]
    refine⟨?_,fun h=> ?_⟩
    ·rw[eF (by omega)];exact uP.1
    ·rw[if_pos h]at hm
     rw[eF (by omega)];exact uP.2 h
theorem L6{i:Nat}:p.c1≤p.unit i:=by
 show _≤qN _ _ _ _ _
 unfold qN
 split
 ·exact(sx _ _ _).2
 ·exact Nat.le_trans (mc p) (tQ _ _ _ _).2
theorem Ep{i:Nat}(h:eY (p.lp.rel i) (p.aJ i)=true):(p.lp.rel i=1∧p.aJ i=1)∨(p.lp.rel i=3∧p.aJ i = -1):=by
 unfold eY at h
 rwa [decide_eq_true_eq]at h
theorem zu{i:Nat}(h:eY (p.lp.rel i) (p.aJ i)=true):p.unit i=bA p.lp.rel p.c1 i:=by
 show qN _ _ _ _ _=_;unfold qN;rw[if_pos h]
theorem vC{i:Nat}(h:¬eY (p.lp.rel i) (p.aJ i)=true):p.unit i=aX p.lp.rel p.aJ p.u i:=by
 show qN _ _ _ _ _=_;unfold qN;rw[if_neg h]
theorem Rg{rel:Nat→Int}{c i q:Nat}(hi:rel i≠2)(hq:rel q≠2)(h:q≠i):bA rel c q≠bA rel c i:=by
 rcases Nat.lt_or_gt_of_ne h with h | h
 ·have:=Q4 (rel:=rel) (c:=c) h
  rw[if_neg hq]at this;omega
 ·have:=Q4 (rel:=rel) (c:=c) h
  rw[if_neg hi]at this;omega
theorem B0{i:Nat}(hi:i<p.lp.m)(hr:p.lp.rel i≠2):bA p.lp.rel p.c1 i<p.u:=by
 have:=Rf p hi hr
 unfold eT at this
 rw[if_neg hr]at this
 omega
theorem ahg{i q:Nat}(hi:i<p.lp.m)(hq:q<p.lp.m)(h:q≠i):p.unit q≠p.unit i:=by
 by_cases oi:eY (p.lp.rel i) (p.aJ i)=true
 ·have ri:p.lp.rel i≠2:=by have:=Ep oi;omega
  by_cases oq:eY (p.lp.rel q) (p.aJ q)=true
  ·have rq:p.lp.rel q≠2:=by have:=Ep oq;omega
   rw[zu oi,zu oq];exact Rg ri rq h
  ·rw[zu oi,vC oq]
   have:=B0 hi ri
   have:=(tQ p.lp.rel p.aJ p.u q).2
   omega
 ·by_cases oq:eY (p.lp.rel q) (p.aJ q)=true
  ·have rq:p.lp.rel q≠2:=by have:=Ep oq;omega
   rw[vC oi,zu oq]
   have:=B0 hq rq
   have:=(tQ p.lp.rel p.aJ p.u i).2
   omega
  ·rw[vC oi,vC oq]
   rcases Nat.lt_or_gt_of_ne h with h | h
   ·have:=Q5 (rel:=p.lp.rel) (sg:=p.aJ) (u:=p.u) h
    rw[if_neg oq]at this;omega
   ·have:=Q5 (rel:=p.lp.rel) (sg:=p.aJ) (u:=p.u) h
    rw[if_neg oi]at this;omega
theorem YH{i q:Nat}(hi:i<p.lp.m)(ri:p.lp.rel i≠2)(h:q≠i):p.unit q≠bA p.lp.rel p.c1 i:=by
 by_cases oq:eY (p.lp.rel q) (p.aJ q)=true
 ·have rq:p.lp.rel q≠2:=by have:=Ep oq;omega
  rw[zu oq];exact Rg ri rq h
 ·rw[vC oq]
  have:=B0 hi ri
  have:=(tQ p.lp.rel p.aJ p.u q).2
  omega
theorem B3(i:Nat):p.dZ.A i=bV (bV (sh (ke p.lay (p.lp.a i) (p.aJ i:Rat) p.lp.n) (p.lp.rel i) (eT p.lp.rel p.c1 i) (p.aJ i:Rat)) (p.unit i) 1) p.w (p.lp.b i*(p.aJ i:Rat)):=rfl
theorem Er{f:Nat→Rat}{rel slack:Int}{sg:Rat}{x:Nat}(h:rel≠2→x≠slack.toNat):sh f rel slack sg x=f x:=by
 unfold sh
 split
 ·exact eF (h (by omega))
 ·split
  ·exact eF (h (by omega))
  ·rfl
theorem B4{i:Nat}(hr:p.lp.rel i≠2):(eT p.lp.rel p.c1 i).toNat=bA p.lp.rel p.c1 i:=by
 unfold eT;rw[if_neg hr,Int.toNat_natCast]
theorem Rh{i x:Nat}(hx:x<p.c1):p.dZ.A i x=ke p.lay (p.lp.a i) (p.aJ i:Rat) p.lp.n x:=by
 have h1:=mc p
 have h2:=fj p
 have h3:=L6 (p:=p) (i:=i)
 rw[B3,eF (by omega),eF (by omega),Er]
 intro hr
 rw[B4 hr]
 have:=(sx p.lp.rel p.c1 i).2
 omega
theorem ahh{i j:Nat}(hj:j<p.lp.n):p.dZ.A i (aW p.lp.free j)=p.lp.a i j*(p.aJ i:Rat):=by
 rw[Rh (HN p hj)];exact(Eo (Nat.le_refl _) hj).1
theorem ahi{i j:Nat}(hj:j<p.lp.n)(hf:p.lp.free j=true):p.dZ.A i (aW p.lp.free j+1) = -(p.lp.a i j*(p.aJ i:Rat)):=by
 have:=Em p hj
 unfold mN at this
 rw[if_pos hf]at this
 rw[Rh (by omega)];exact(Eo (Nat.le_refl _) hj).2 hf
theorem ahj{i q:Nat}(hi:i<p.lp.m)(hv:p.lp.rel i=1∨p.lp.rel i=3):p.dZ.A q (bA p.lp.rel p.c1 i)=if q=i then(if p.lp.rel i=1 then(p.aJ i:Rat)else -(p.aJ i:Rat))else 0:=by
 have hr:p.lp.rel i≠2:=by omega
 have h1:=B0 hi hr
 have h2:=fj p
 have h3:=(sx p.lp.rel p.c1 i).2
 rw[B3,eF (by omega)]
 by_cases e:q=i
 ·subst e
  rw[if_pos rfl]
  by_cases o:eY (p.lp.rel q) (p.aJ q)=true
  ·rw[zu o,jE]
   rcases Ep o with ⟨k1,k2⟩ | ⟨k1,k2⟩
   ·rw[if_pos k1,k2];rfl
   ·rw[if_neg (by omega),k2];grind
  ·rw[eF (by rw[vC o];have:=(tQ p.lp.rel p.aJ p.u q).2;omega)]
   unfold sh
   rw[B4 hr]
   by_cases k1:p.lp.rel q=1
   ·rw[if_pos k1,if_pos k1,jE]
   ·rw[if_neg k1,if_neg k1,if_pos (by omega),jE]
 ·rw[if_neg e,eF (Ne.symm (YH hi hr e)),Er (fun hq=>by rw[B4 hq];exact Ne.symm (Rg hr hq e))]
  exact En (Nat.le_refl _) h3
theorem YI{i q:Nat}(hi:i<p.lp.m)(hq:q<p.lp.m):p.dZ.A q (p.unit i)=if q=i then 1 else 0:=by
 have h1:=nX p hi
 rw[B3,eF (by omega)]
 by_cases e:q=i
 ·subst e
  rw[if_pos rfl,jE]
 ·rw[if_neg e,eF (Ne.symm (ahg hi hq e)),Er]
  ·exact En (Nat.le_refl _) L6
  ·intro rq
   rw[B4 rq]
   exact YH hq rq (Ne.symm e)
theorem YJ(i:Nat):p.dZ.A i p.w=p.lp.b i*(p.aJ i:Rat)∧0≤p.dZ.A i p.w:=by
 have h:p.dZ.A i p.w=p.lp.b i*(p.aJ i:Rat):=by rw[B3,jE]
 refine⟨h,?_⟩
 rw[h]
 show 0≤p.lp.b i*((kJ (p.lp.b i) (p.lp.rel i):Int):Rat)
 unfold kJ
 split
 ·rename_i hc
  have:p.lp.b i≤0:=by rcases hc with hc | hc <;> grind
  show 0≤p.lp.b i*((-1:Int):Rat)
  grind
 ·rename_i hc
  have:0≤p.lp.b i:=by
   have:¬p.lp.b i<0:=fun h=>hc (.inl h)
   grind
  show 0≤p.lp.b i*((1:Int):Rat)
  grind
def _root_.Lp.Prg.tS(p:Prg)(i:Nat):Option Nat:=if p.lp.rel i=2 then none else some (bA p.lp.rel p.c1 i)
theorem B5{j:Nat}(h:j<p.lp.n):p.lay.mF j=if p.lp.free j then some (aW p.lp.free j+1)else none:=by
 unfold TL.mF
 rw[HM p h]
 unfold mN
 by_cases hf:p.lp.free j=true
 ·rw[if_pos hf,if_pos hf,if_pos (by omega),Int.toNat_natCast]
 ·rw[if_neg hf,if_neg hf,if_neg (by omega)]
theorem YK{i:Nat}(h:i<p.lp.m):p.lay.uF i=p.unit i:=by
 simp[TL.uF,Prg.lay,List.getD,h]
theorem Es{i:Nat}(h:i<p.lp.m):p.lay.sF i=(p.aJ i:Rat):=by
 have:p.lay.j7[i]? = some ((p.aJ i:Int):Rat):=dJ (f:=fun i=>(p.aJ i:Rat)) h
 exact kT this
theorem ahk(f:Nat→Rat){k:Nat}(hk:k≤p.lp.n):bo (aW p.lp.free k) f=bo k (fun j=>f (p.lay.pF j)+ia f (p.lay.mF j)):=by
 induction k with
 | zero=>rfl
 | succ k ih=>
  have h1:aW p.lp.free (k+1)=aW p.lp.free k+1+(if p.lp.free k then 1 else 0):=rfl
  rw[fW,←ih (by omega),zt p (by omega),B5 (by omega)]
  by_cases hf:p.lp.free k=true
  ·rw[if_pos hf]at h1⊢
   rw[h1,fW,fW]
   simp only[ia];grind
  ·rw[if_neg hf]at h1⊢
   rw[h1,Nat.add_zero,fW]
   simp only[ia];grind
theorem ahl(f:Nat→Rat)(k:Nat):bo (bA p.lp.rel p.c1 k) f=bo p.c1 f+bo k (fun i=>ia f (p.tS i)):=by
 induction k with
 | zero=>rw[Bf,Rat.add_zero];rfl
 | succ k ih=>
  have h1:bA p.lp.rel p.c1 (k+1)=bA p.lp.rel p.c1 k+(if p.lp.rel k=2 then 0 else 1):=rfl
  rw[fW]
  by_cases hr:p.lp.rel k=2
  ·rw[if_pos hr]at h1
   have:p.tS k=none:=by unfold Prg.tS;rw[if_pos hr]
   rw[h1,Nat.add_zero,this,ih]
   simp only[ia];grind
  ·rw[if_neg hr]at h1
   have:p.tS k=some (bA p.lp.rel p.c1 k):=by unfold Prg.tS;rw[if_neg hr]
   rw[h1,this,fW,ih]
   simp only[ia];grind
theorem L7(a8:p.Ok):dB p.lp p.dZ.A p.w p.u p.lay.pF p.lay.mF p.tS p.lay.uF p.lay.sF where
 valid:=a8.valid
 uw:=fj p
 WI i hi:=by
  rw[Es hi]
  rcases sw (p.lp.b i) (p.lp.rel i)with h | h
  ·left;show ((kJ _ _:Int):Rat)=1;rw[h];rfl
  ·right;show ((kJ _ _:Int):Rat) = -1;rw[h];rfl
 rhs i hi:=by rw[Es hi];exact YJ i
 pl j hj:=by
  rw[zt p hj]
  refine⟨Nat.lt_of_lt_of_le (HN p hj) (mc p),fun i hi=> ?_⟩
  rw[Es hi];exact ahh hj
 mi j hj:=by
  rw[B5 hj]
  refine⟨fun h=>by rw[h];rfl,fun k hk=> ?_⟩
  by_cases hf:p.lp.free j=true
  ·rw[if_pos hf]at hk
   cases hk
   have h1:=Em p hj
   unfold mN at h1
   rw[if_pos hf]at h1
   have h2:=mc p
   refine⟨by omega,fun i hi=> ?_⟩
   rw[Es hi];exact ahi hj hf
  ·rw[if_neg hf]at hk;cases hk
 PU j hj hf:=by
  rw[B5 hj,if_pos hf];exact⟨_,rfl⟩
 sl i hi:=by
  refine⟨fun h=>by unfold Prg.tS;rw[if_pos h],fun h=>⟨_,by unfold Prg.tS;rw[if_neg h]⟩,fun k hk=> ?_⟩
  unfold Prg.tS at hk
  by_cases hr:p.lp.rel i=2
  ·rw[if_pos hr]at hk;cases hk
  ·rw[if_neg hr]at hk
   cases hk
   refine⟨B0 hi hr,fun q hq=> ?_⟩
   rw[Es hi]
   exact ahj hi (by have:=a8.valid i hi;omega)
 un i hi:=by
  rw[YK hi]
  exact⟨nX p hi,fun q hq=>YI hi hq⟩
 sum f:=by
  have h1:p.u=bA p.lp.rel p.c1 p.lp.m:=rfl
  rw[h1,ahl,show p.c1=aW p.lp.free p.lp.n from rfl,ahk f (Nat.le_refl _)]
theorem nY:p.lay.Ok p.lp.n p.lp.m where
 LF:=by simp[Prg.lay]
 LG:=by simp[Prg.lay]
 Qw:=by simp[Prg.lay]
 Qx:=bg _ _
 pw j hj:=by
  rw[zt p hj]
  have:=HN p hj;have:=mc p;have:=fj p
  show _<p.w;omega
 mw j hj:=by
  rw[HM p hj]
  have:=Em p hj;have:=mc p;have:=fj p
  show _<((p.w:Nat):Int);omega
 uw i hi:=by rw[YK hi];exact nX p hi
 s1 i hi:=by rw[Es hi];exact YG (sw _ _)
theorem ahm:p.dZ.WF where
 lt i hi:=nX p hi
 unit i k hi hk:=YI hi hk
 zero i hi:=rfl
theorem ahn:p.dZ.j0:=fun i _=>(YJ i).2
theorem aho:aq.Rows p.dZ.A p.lp.m p.w p.dZ:=aq.afs (fun _ _=>rfl) rfl rfl
end
end Go.au
namespace Go.au
open Go.Proofs Num Lp
theorem Et{D X:Nat}{q:Rat}(D':Nat)(h:aq.dV D X q):aq.dV (D*D') (X*D') q:=by
 obtain⟨z,h1,h2⟩:=h
 refine⟨z*D',?_,?_⟩
 ·rw[Rat.natCast_mul,Rat.intCast_mul,←h1]
  have:((D':Int):Rat)=(D':Rat):=rfl
  rw[this];grind
 ·rw[Int.natAbs_mul,Int.natAbs_natCast];exact Nat.mul_le_mul_right _ h2
theorem YL{D D' X Y:Nat}{q r:Rat}(h:aq.dV D X q)(k:aq.dV D' Y r):aq.dV (D*D') (X*Y) (q*r):=by
 obtain⟨z,h1,h2⟩:=h
 obtain⟨y,k1,k2⟩:=k
 refine⟨z*y,?_,?_⟩
 ·rw[Rat.natCast_mul,Rat.intCast_mul,←h1,←k1];grind
 ·rw[Int.natAbs_mul];exact Nat.mul_le_mul h2 k2
theorem Ri{T:aq}{f:Nat→Rat}{D D' X Y k j:Nat}(hB:∀i,i<T.m→T.B i<T.n)(hf:∀j,j<T.n→aq.dV D X (f j))(hA:∀i,i<T.m→aq.dV D' Y (T.A i j))(hk:k≤T.m)(hj:j≤T.n):
  aq.dV (D*D') (X*D'+k*(X*Y)) (gK T f k j):=by
 unfold gK
 refine aq.dV.sub ?_ (aq.afX k _ fun i hi=>YL (hf _ (hB i (by omega))) (hA i (by omega)))
 split
 ·exact aq.Bw _ _
 ·exact Et _ (hf j (by omega))
theorem ahp(e:Nat):2^e<B^(e+1):=by
 have h1:2^(e+1)≤B^(e+1):=Nat.pow_le_pow_left (by decide) _
 have h2:2^e<2^(e+1):=Nat.pow_lt_pow_right (by decide) (by omega)
 omega
theorem Eu{D X e:Nat}{q:Rat}(hD:0<D)(h:aq.dV D X q)(h1:D≤2^e)(h2:X≤2^e):aO q≤e+1:=by
 have h3:=aq.afS hD h
 have h4:=ahp e
 unfold aO
 rw[Nat.max_le,jd,jd]
 omega
theorem HP{D D0 n j e f:Nat}(hD:D≤2^e)(h0:D0≤2^f):D*aq.lY n j D0 1≤2^(e+f)∧2^(e+aq.lY n j f 0)≤2^(e+f):=by
 have h1:(1:Nat)≤2^f:=Nat.one_le_two_pow
 unfold aq.lY
 split
 ·exact⟨by rw[Nat.pow_add];exact Nat.mul_le_mul hD h0,Nat.le_refl _⟩
 ·exact⟨by rw[Nat.pow_add];exact Nat.mul_le_mul hD h1,Nat.pow_le_pow_right (by decide) (by omega)⟩
theorem Rj{D D0 n j:Nat}(hD:0<D)(h0:0<D0):0<D*aq.lY n j D0 1:=Nat.mul_pos hD (by unfold aq.lY;split <;> omega)
theorem ahq{D0 f e:Nat}{T:aq}(h:aq.Bd D0 f e T)(p0:0<D0)(h0:D0≤2^f):Sz (e+f+1) T:=by
 obtain⟨D,h1,h2,h3,h4⟩:=h
 exact⟨fun i hi j hj=>Eu (Rj h1 p0) (h3 i hi j hj) (HP h2 h0).1 (HP (j:=j) (n:=T.n) h2 h0).2,fun j hj=>Eu (Rj h1 p0) (h4 j hj) (HP h2 h0).1 (HP (j:=j) (n:=T.n) h2 h0).2⟩
def In(l:List Rat)(p:Prg):Prop:=∀i,i<p.lp.m→∀j,j<p.lp.n→p.lp.a i j∈l
structure kK(D0 f:Nat)(p:Prg):Prop where
 pos:0<D0
 le:D0≤2^f
 b:∀i,i<p.lp.m→aq.dV D0 (2^f) (p.lp.b i)
theorem Ev{P:Rat→Prop}{f:Nat→Rat}{k:Nat}{q:Rat}(hf:∀j,P (f j))(hq:P q):∀j,P (bV f k q j):=fun j=>by
 unfold bV;split
 ·exact hq
 ·exact hf j
abbrev CM(l:List Rat)(q:Rat):Prop:=aq.dV (aq.fR l) (2^(2*aq.cT l)) q
section
variable {p:Prg} {l:List Rat}
theorem YM{D X:Nat}{q:Rat}{s:Int}(h:aq.dV D X q)(hs:s=1∨s = -1):aq.dV D X (q*(s:Rat)):=by
 rcases hs with e | e
 ·rw[e,show q*((1:Int):Rat)=q by grind];exact h
 ·rw[e,show q*((-1:Int):Rat) = -q by grind];exact h.neg
theorem YN:CM l 1:=aq.W7 l 1 (by decide)
theorem YO{s:Int}(hs:s=1∨s = -1):CM l (s:Rat):=aq.W7 l s (by omega)
theorem YP{a:Nat→Rat}{s:Int}(hs:s=1∨s = -1)(k:Nat)(ha:∀j,j<k→CM l (a j))(L:TL):∀j,CM l (ke L a (s:Rat) k j):=by
 induction k with
 | zero=>exact fun j=>aq.Bw _ _
 | succ k ih=>
  have uP:=ih (fun j hj=>ha j (by omega))
  have h1:=YM (ha k (by omega)) hs
  intro j
  rw[BS]
  split
  ·exact Ev (Ev uP h1) h1.neg j
  ·exact Ev uP h1 j
theorem Rk(h:In l p){i:Nat}(hi:i<p.lp.m){j:Nat}(hj:j≠p.w):CM l (p.dZ.A i j):=by
 have hs:=sw (p.lp.b i) (p.lp.rel i)
 rw[B3,eF hj]
 refine Ev (fun j=> ?_) YN j
 have h1:=YP (l:=l) (L:=p.lay) hs p.lp.n (fun j hj=>aq.Lo (h i hi j hj))
 unfold sh
 split
 ·exact Ev h1 (YO hs) j
 ·split
  ·exact Ev h1 (YO hs).neg j
  ·exact h1 j
theorem Rm{D0 f:Nat}(h:kK D0 f p){i:Nat}(hi:i<p.lp.m):aq.dV D0 (2^f) (p.dZ.A i p.w):=by
 rw[B3,jE]
 exact YM (h.b i hi) (sw (p.lp.b i) (p.lp.rel i))
def p5(T:aq)(c0:Nat→Rat):aq:={T with c:=gK T c0 T.m}
structure Inv(p:Prg)(c0:Nat→Rat)(S:aq):Prop where
 wf:S.WF
 cZ:S.j0
 rows:aq.Rows p.dZ.A p.lp.m p.w S
 off:dB.tG p.dZ.A p.lp.m p.w c0 S.c
theorem ahr{T:aq}{c0:Nat→Rat}(hB:∀i,i<T.m→T.B i<T.n)(hu:∀i k,i<T.m→k<T.m→T.A k (T.B i)=if k=i then 1 else 0){i:Nat}(hi:i<T.m):gK T c0 T.m (T.B i)=0:=by
 unfold gK
 have h1:=hB i hi
 rw[if_neg (by omega),rP hi _ (fun k hk aZ=>by rw[hu i k hi hk,if_neg aZ];grind),hu i i hi hi,if_pos rfl]
 grind
theorem Inv.YQ{S:aq}{c0:Nat→Rat}(h0:c0 p.w=0)(hW:S.WF)(hF:S.j0)(hR:aq.Rows p.dZ.A p.lp.m p.w S):Inv p c0 (p5 S c0):=by
 have dM:aq.Rows p.dZ.A p.lp.m p.w (p5 S c0):=⟨hR.m,hR.n,hR.mul,hR.nR⟩
 refine⟨⟨hW.lt,hW.unit,fun i hi=>ahr hW.lt hW.unit hi⟩,hF,dM,hR.off c0 (fun i=>c0 (S.B i)) fun j hj=> ?_⟩
 show gK S c0 S.m j=_
 unfold gK
 rw[hR.m,hR.n]
 by_cases e:j=p.w
 ·rw[if_pos e,e,h0]
 ·rw[if_neg e]
theorem Inv.step{S:aq}{c0:Nat→Rat}(h:Inv p c0 S){u r s:Nat}(hu:u≤S.n)(hb:S.o0 u r s):Inv p c0 (S.pivot r s):=by
 have hp:S.A r s≠0:=by have:=hb.pos;grind
 have hs:=hb.su
 have hr:=hb.rm
 exact⟨aq.Bg h.wf hr (by omega) hp,aq.Gt h.cZ hb,h.rows.pivot (by rw[←h.rows.m];exact hr) hp,h.rows.PW h.off (by rw[←h.rows.m];exact hr)⟩
theorem Inv.same{S T:aq}{c0:Nat→Rat}(h:Inv p c0 S)(h':Inv p c0 T):aq.j5 S T:=
 ⟨by rw[h.rows.m,h'.rows.m],by rw[h.rows.n,h'.rows.n],fun x=>by rw[h.rows.nR,h'.rows.nR],fun x hx=>by
  rw[h.rows.cost h.off hx,h'.rows.cost h'.off ((h'.rows.nR x).2 ((h.rows.nR x).1 hx))]⟩
theorem YR(m:Nat):m+1≤2^m:=by
 induction m with
 | zero=>decide
 | succ m ih=>rw[Nat.pow_succ];omega
theorem ahs{D0 f:Nat}(h:In l p)(hb:kK D0 f p){c0:Nat→Rat}(hc:∀j,j<p.w→CM l (c0 j)):aq.Bd D0 f (4*aq.cT l+p.lp.m) (p5 p.dZ c0):=by
 have hD:=aq.GC l
 have Ew:=aq.Bv l
 have hm:=YR p.lp.m
 generalize xF:2^(2*aq.cT l)=X at *
 have hX:1≤X:=by rw[←xF];exact Nat.one_le_two_pow
 have L8:aq.fR l≤X:=by rw[←xF];exact Nat.le_trans Ew (Nat.pow_le_pow_right (by decide) (by omega))
 have p2:2^(4*aq.cT l+p.lp.m)=X*X*2^p.lp.m:=by rw[←xF,←Nat.pow_add,←Nat.pow_add];congr 1;omega
 have YS:aq.fR l*aq.fR l≤X*X:=Nat.mul_le_mul L8 L8
 have hXD:X*aq.fR l≤X*X:=Nat.mul_le_mul_left _ L8
 have hM:∀x,x≤X*X→x≤2^(4*aq.cT l+p.lp.m):=fun x hx=>by
  rw[p2];exact Nat.le_trans hx (Nat.le_mul_of_pos_right _ (by omega))
 have th:∀{q},CM l q→aq.dV (aq.fR l) X q:=fun{q} h=>by rw[←xF];exact h
 have oA:(p5 p.dZ c0).n=p.w:=rfl
 refine⟨aq.fR l*aq.fR l,Nat.mul_pos hD hD,hM _ YS,fun i hi j hj=> ?_,fun j hj=> ?_⟩
 ·by_cases e:j=p.w
  ·subst e
   rw[←oA,aq.y9,aq.y9,Nat.mul_comm,oA]
   refine(Et (aq.fR l*aq.fR l) (Rm hb hi)).mono ?_
   rw[Nat.pow_add,Nat.mul_comm]
   exact Nat.mul_le_mul_right _ (hM _ YS)
  ·rw[aq.DR (by rw[oA]at hj⊢;omega),aq.DR (by rw[oA]at hj⊢;omega),Nat.mul_one]
   exact(Et _ (th (Rk h hi e))).mono (hM _ hXD)
 ·by_cases e:j=p.w
  ·subst e
   rw[←oA,aq.y9,aq.y9,oA]
   have h1:=Et (aq.fR l) (Ri (T:=p.dZ) (k:=p.lp.m) (j:=p.w) (fun i hi=>nX p hi) (fun j hj=>th (hc j hj)) (fun i hi=>Rm hb hi) (Nat.le_refl _) hj)
   rw[show aq.fR l*aq.fR l*D0=aq.fR l*D0*aq.fR l by rw[Nat.mul_assoc,Nat.mul_assoc,Nat.mul_comm D0]]
   refine h1.mono ?_
   have h2:X*D0≤X*2^f:=Nat.mul_le_mul_left _ hb.le
   have h3:X*D0+p.lp.m*(X*2^f)≤(p.lp.m+1)*(X*2^f):=by rw[Nat.succ_mul p.lp.m];omega
   refine Nat.le_trans (Nat.mul_le_mul h3 L8) ?_
   rw[Nat.pow_add,p2]
   have e4:(p.lp.m+1)*(X*2^f)*X=X*X*(p.lp.m+1)*2^f:=by
    rw[Nat.mul_comm _ X,Nat.mul_left_comm (p.lp.m+1) X,←Nat.mul_assoc,Nat.mul_assoc (X*X)]
   rw[e4]
   exact Nat.mul_le_mul_right _ (Nat.mul_le_mul_left _ hm)
  ·rw[aq.DR (by rw[oA]at hj⊢;omega),aq.DR (by rw[oA]at hj⊢;omega),Nat.mul_one]
   refine(Ri (T:=p.dZ) (k:=p.lp.m) (fun i hi=>nX p hi) (fun j hj=>th (hc j hj)) (fun i hi=>th (Rk h hi e)) (Nat.le_refl _) hj).mono ?_
   rw[Nat.add_zero,p2]
   refine Nat.le_trans (m:=(p.lp.m+1)*(X*X)) ?_ (by rw[Nat.mul_comm];exact Nat.mul_le_mul_left _ hm)
   rw[Nat.succ_mul p.lp.m];omega
def iy(l:List Rat)(k m:Nat):Nat:=2^k*(4*aq.cT l+m+1)
def bits(l:List Rat)(k m f:Nat):Nat:=iy l k m+f
theorem Inv.base{c0:Nat→Rat}(h0:c0 p.w=0):Inv p c0 (p5 p.dZ c0):=Inv.YQ h0 ahm ahn aho
def Ex(p:Prg)(k:Nat):Prop:=p.lp.m≤k∨p.w≤p.lp.m+k
theorem Inv.bd{D0 f k:Nat}{S:aq}{c0:Nat→Rat}(h:Inv p c0 S)(hl:In l p)(hb:kK D0 f p)(hk:Ex p k)(h0:c0 p.w=0)(hc:∀j,j<p.w→CM l (c0 j)):aq.Bd D0 f (iy l k p.lp.m-1) S:=by
 refine aq.afP (Inv.base h0).wf h.wf ((Inv.base h0).same h) (ahs hl hb hc) ?_
 rcases hk with hk | hk
 ·exact Nat.le_trans (aq.afQ _ _) (by rw[h.rows.m];exact hk)
 ·have h1:=aq.afR (Inv.base h0).wf h.wf ((Inv.base h0).same h)
  have h2:(p5 p.dZ c0).n=p.w:=rfl
  have h3:(p5 p.dZ c0).m=p.lp.m:=rfl
  omega
theorem Ey(l:List Rat)(k m:Nat):2*aq.cT l+m+1≤iy l k m:=by
 unfold iy
 have h1:1≤2^k:=Nat.one_le_two_pow
 have h2:1*(4*aq.cT l+m+1)≤2^k*(4*aq.cT l+m+1):=Nat.mul_le_mul_right _ h1
 omega
theorem Inv.sz{D0 f k:Nat}{S:aq}{c0:Nat→Rat}(h:Inv p c0 S)(hl:In l p)(hb:kK D0 f p)(hk:Ex p k)(h0:c0 p.w=0)(hc:∀j,j<p.w→CM l (c0 j)):Sz (bits l k p.lp.m f) S:=by
 have h1:=ahq (h.bd hl hb hk h0 hc) hb.pos hb.le
 have h2:=Ey l k p.lp.m
 rwa [show iy l k p.lp.m-1+f+1=bits l k p.lp.m f by unfold bits;omega]at h1
theorem Rn{q:Rat}(h:CM l q)(k m f:Nat):aO q≤bits l k m f:=by
 have h2:=Ey l k m
 refine Nat.le_trans (Eu (e:=2*aq.cT l) (aq.GC l) h ?_ (Nat.le_refl _)) (by unfold bits;omega)
 exact Nat.le_trans (aq.Bv l) (Nat.pow_le_pow_right (by decide) (by omega))
theorem YT{D0 f k:Nat}{S:aq}{c1:Nat→Rat}(hB:∀i,i<S.m→S.B i<S.n)(hm:S.m=p.lp.m)(hn:S.n=p.w)(hb:aq.Bd D0 f (iy l k p.lp.m-1) S)(p0:0<D0)(h0:D0≤2^f)(hc:∀j,j<p.w→CM l (c1 j)):∀k',k'≤S.m→∀j,j≤S.n→aO (gK S c1 k' j)≤2*bits l k p.lp.m f:=by
 intro k' hk j hj
 obtain⟨D,h1,h2,h3,_⟩:=hb
 have hbp:=Ey l k p.lp.m
 have hD:=aq.GC l
 have Ew:=aq.Bv l
 obtain⟨q1,q2⟩:=HP (j:=j) (n:=S.n) h2 h0
 have key:=Ri hB (fun j hj=>hc j (by omega)) (fun i hi=>h3 i hi j hj) hk hj
 refine Nat.le_trans (Eu (e:=2*aq.cT l+(iy l k p.lp.m-1+f)+p.lp.m) (Nat.mul_pos hD (Rj h1 p0)) key ?_ ?_) (by unfold bits;omega)
 ·refine Nat.le_trans (Nat.mul_le_mul Ew q1) ?_
  rw[←Nat.pow_add]
  exact Nat.pow_le_pow_right (by decide) (by omega)
 ·rw[Nat.pow_add _ _ p.lp.m,Nat.pow_add 2 (2*aq.cT l) (iy l k p.lp.m-1+f)]
  generalize 2^(iy l k p.lp.m-1+f)=Z at *
  have g1:2^(2*aq.cT l)*(D*aq.lY S.n j D0 1)≤2^(2*aq.cT l)*Z:=Nat.mul_le_mul_left _ q1
  have g3:k'*(2^(2*aq.cT l)*2^(iy l k p.lp.m-1+aq.lY S.n j f 0))≤k'*(2^(2*aq.cT l)*Z):=Nat.mul_le_mul_left _ (Nat.mul_le_mul_left _ q2)
  have g2:=YR p.lp.m
  refine Nat.le_trans (m:=(k'+1)*(2^(2*aq.cT l)*Z)) (by rw[Nat.succ_mul k',Nat.add_comm];exact Nat.add_le_add g3 g1) ?_
  rw[Nat.mul_comm];exact Nat.mul_le_mul_left _ (by omega)
end
end Go.au
namespace Go.au
open Go.Proofs Num Lp
section
variable {p:LP}
theorem L9{n:Nat}{a x x':Nat→Rat}(h:∀j,j<n→x j=x' j):bK n a x=bK n a x':=afl (fun _ _=>rfl) h
theorem dH.congr{t:Rat}{x x':Nat→Rat}(h:∀j,j<p.n→x j=x' j)(hm:p.dH t x):p.dH t x':=
 ⟨fun j hj hf=>by rw[←h j hj];exact hm.1 j hj hf,fun i hi=>by rw[←L9 h];exact hm.2 i hi⟩
theorem Signed.congr{y y':Nat→Rat}(h:∀i,i<p.m→y i=y' i)(hm:p.Signed y):p.Signed y':=fun i hi=>by rw[←h i hi];exact hm i hi
theorem YU{y y':Nat→Rat}(h:∀i,i<p.m→y i=y' i)(j:Nat):p.j6 y j=p.j6 y' j:=eK fun i hi=>by rw[h i hi]
theorem YV{y y':Nat→Rat}(h:∀i,i<p.m→y i=y' i):p.vh y=p.vh y':=eK fun i hi=>by rw[h i hi]
theorem yZ.congr{c x x' y y':Nat→Rat}(hx:∀j,j<p.n→x j=x' j)(hy:∀i,i<p.m→y i=y' i)(h:p.yZ c x y):p.yZ c x' y':=
 ⟨dH.congr hx h.cZ,Signed.congr hy h.signed,fun j hj=>by rw[←YU hy];exact h.iu j hj,by rw[←YV hy,←L9 hx];exact h.eq⟩
theorem y5.congr{y y':Nat→Rat}(hy:∀i,i<p.m→y i=y' i)(h:p.y5 y):p.y5 y':=
 ⟨Signed.congr hy h.signed,fun j hj=>by rw[←YU hy];exact h.iu j hj,by rw[←YV hy];exact h.pos⟩
theorem y6.congr{c x x' r r':Nat→Rat}(hx:∀j,j<p.n→x j=x' j)(hr:∀j,j<p.n→r j=r' j)(h:p.y6 c x r):p.y6 c x' r':=
 ⟨dH.congr hx h.cZ,dH.congr hr h.ray,by rw[←L9 hr];exact h.neg⟩
end
section
variable {p:Prg} {l c:List Rat} {T:aq}
abbrev pn(p:Prg):Nat→Rat:=aq.jB p.u p.w
abbrev kt(p:Prg)(c:List Rat):Nat→Rat:=ke p.lay (fn c) 1 p.lp.n
theorem B6:pn p p.w=0:=aq.WR _ _
theorem HQ(j:Nat):CM l (pn p j):=by
 show CM l (aq.jB _ _ _)
 unfold aq.jB;split
 ·exact YN
 ·exact aq.Bw _ _
theorem Ma:aq.Gx p.lp p.w p.lay.pF p.lay.mF p.tS (fn c) (kt p c) where
 pl j hj:=by rw[zt p hj];show ke p.lay (fn c) 1 p.lp.n _=_;rw[(Eo (Nat.le_refl _) hj).1];grind
 mi j hj k hk:=by
  rw[B5 hj]at hk
  by_cases hf:p.lp.free j=true
  ·rw[if_pos hf]at hk;cases hk
   show ke p.lay (fn c) 1 p.lp.n _=_
   rw[(Eo (Nat.le_refl _) hj).2 hf];grind
  ·rw[if_neg hf]at hk;cases hk
 sl i hi k hk:=by
  unfold Prg.tS at hk
  split at hk
  ·cases hk
  ·cases hk
   exact En (Nat.le_refl _) (sx _ _ _).2
 last:=En (Nat.le_refl _) (Nat.le_trans (mc p) (fj p))
theorem HR:kt p c p.w=0:=(Ma (p:=p) (c:=c)).last
theorem Mb(hc:∀j,j<p.lp.n→fn c j∈l)(j:Nat):CM l (kt p c j):=by
 have:=YP (l:=l) (a:=fn c) (s:=1) (.inl rfl) p.lp.n (fun j hj=>aq.Lo (hc j hj)) p.lay j
 exact this
theorem YW(a8:p.Ok)(h:Inv p (pn p) T)(hn:∀j,j<p.u→0≤T.c j)(fY:T.c p.w<0):Li p (aK (fun i=>p.lay.sF i*(pn p (p.lay.uF i)-T.c (p.lay.uF i))) p.lp.m):=
 ⟨a8,bg _ _,y5.congr (fun i hi=>(DT hi).symm) (dB.afr (L7 a8) h.off (fun j hj=>aq.P0 hj) B6 hn fY)⟩
theorem YX(h:Inv p (pn p) T)(hv:¬T.c p.w<0):aq.Clean p.u 0 T:=
 aq.Clean.start (aq.WS h.wf h.cZ h.rows h.off (by grind)).2
theorem YY(h:Inv p (pn p) T){s:Nat}(hs:s<p.u)(fY:T.c s<0)(hA:∀i,i<T.m→T.A i s≤0):False:=
 aq.afv h.wf h.rows h.off (Nat.lt_of_lt_of_le hs (fj p)) fY hA
def Jx(p:Prg)(k:Nat)(S:aq):Prop:=Inv p (pn p) S∧aq.Clean p.u k S
theorem Jx.skip{k:Nat}(h:Jx p k T)(hk:T.B k<p.u∨∀j,j<p.u→T.A k j=0):Jx p (k+1) T:=⟨h.1,h.2.skip hk⟩
theorem Jx.pivot{k s:Nat}(h:Jx p k T)(hk:k<T.m)(hu:p.u≤T.B k)(hs:s<p.u)(hp:T.A k s≠0):Jx p (k+1) (T.pivot k s):=by
 have mL:=fj p
 have hm:k<p.lp.m:=by rw[←h.1.rows.m];exact hk
 exact⟨⟨aq.Bg h.1.wf hk (by rw[h.1.rows.n];omega) hp,h.2.cZ h.1.cZ hk hu s,h.1.rows.pivot hm hp,h.1.rows.PW h.1.off hm⟩,h.2.afx hk hu hs⟩
def I2(p:Prg)(c:List Rat)(S:aq):Prop:=Inv p (kt p c) S∧aq.Clean p.u S.m S
theorem I2.start(h:Jx p p.lp.m T):I2 p c (p5 T (kt p c)):=by
 have hc:=h.2
 rw[←h.1.rows.m]at hc
 exact⟨Inv.YQ HR h.1.wf h.1.cZ h.1.rows,⟨hc.zero,hc.row⟩⟩
theorem I2.step{r s:Nat}(h:I2 p c T)(hb:T.o0 p.u r s):I2 p c (T.pivot r s):=
 ⟨h.1.step (by rw[h.1.rows.n];exact fj p) hb,h.2.Gw hb⟩
theorem YZ(a8:p.Ok)(fi:c.length=p.free.length)(h:I2 p c T)(hn:∀j,j<p.u→0≤T.c j):
  DO p c (aK (dB.vec p.lay.pF p.lay.mF T.pt) p.lp.n) (aK (fun i=>p.lay.sF i*(kt p c (p.lay.uF i)-T.c (p.lay.uF i))) p.lp.m)∧-(T.c p.w)=bK p.free.length (fn c) (fn (aK (dB.vec p.lay.pF p.lay.mF T.pt) p.lp.n)):=by
 have h1:=aq.afy (L7 a8) h.1.wf h.1.cZ h.1.rows h.2 Ma h.1.off hn
 have h2:=yZ.congr (x':=fn (aK (dB.vec p.lay.pF p.lay.mF T.pt) p.lp.n)) (y':=fn (aK (fun i=>p.lay.sF i*(kt p c (p.lay.uF i)-T.c (p.lay.uF i))) p.lp.m)) (fun j hj=>(DT hj).symm) (fun i hi=>(DT hi).symm) h1
 refine⟨⟨⟨a8,bg _ _,h2.cZ⟩,fi,bg _ _,h2⟩,?_⟩
 rw[←aq.WX (L7 a8) h.1.wf h.1.rows h.2 Ma h.1.off]
 exact L9 (n:=p.lp.n) fun j hj=>(DT hj).symm
theorem Y0(a8:p.Ok)(fi:c.length=p.free.length)(h:I2 p c T){s:Nat}(hs:s<p.u)(fY:T.c s<0)(hA:∀i,i<T.m→T.A i s≤0):
  Lj p c (aK (dB.vec p.lay.pF p.lay.mF T.pt) p.lp.n) (aK (dB.vec p.lay.pF p.lay.mF (T.dir s)) p.lp.n):=by
 have h1:=aq.afz (L7 a8) h.1.wf h.1.cZ h.1.rows h.2 Ma h.1.off hs fY hA
 have h2:=y6.congr (x':=fn (aK (dB.vec p.lay.pF p.lay.mF T.pt) p.lp.n)) (r':=fn (aK (dB.vec p.lay.pF p.lay.mF (T.dir s)) p.lp.n)) (fun j hj=>(DT hj).symm) (fun j hj=>(DT hj).symm) h1
 exact⟨⟨a8,bg _ _,h2.cZ⟩,fi,bg _ _,h2⟩
theorem Ro{N:Nat}(hW:T.WF)(hz:Sz N T)(h0:1≤N){j:Nat}(hj:j<T.n):aO (T.pt j)≤N:=by
 by_cases h:∃i,i<T.m∧T.B i=j
 ·obtain⟨i,hi,rfl⟩:=h
  rw[aq.PY hW hi];exact hz.A i hi _ (Nat.le_refl _)
 ·rw[aq.PZ hj (fun i hi e=>absurd ⟨i,hi,e⟩ h)]
  exact Nat.le_trans (by decide) h0
theorem Y1{N:Nat}(hW:T.WF)(hz:Sz N T)(h0:1≤N){s j:Nat}(hs:s≤T.n)(D5:∀i,i<T.m→T.B i≠s):aO (T.dir s j)≤N:=by
 unfold aq.dir
 by_cases e:j=s
 ·subst e
  rw[if_pos rfl,mG (fun i hi=>by rw[if_neg (D5 i hi)]),show (1:Rat)-0=1 by grind]
  exact Nat.le_trans (by decide) h0
 ·rw[if_neg e]
  by_cases h:∃i,i<T.m∧T.B i=j
  ·obtain⟨i,hi,rfl⟩:=h
   rw[rP hi _ (fun k hk aZ=>by rw[if_neg (fun e'=>aZ (hW.inj hk hi e'))]),if_pos rfl,show (0:Rat)-T.A i s = -(T.A i s) by grind,wP]
   exact hz.A i hi s hs
  ·rw[mG (fun i hi=>by rw[if_neg (fun e'=>h ⟨i,hi,e'⟩)]),show (0:Rat)-0=0 by grind]
   exact Nat.le_trans (by decide) h0
theorem Y2(hW:T.WF){s:Nat}(fY:T.c s<0):∀i,i<T.m→T.B i≠s:=fun i hi e=>by
 have:=hW.zero i hi
 rw[e]at this;grind
end
structure Fits(p:Prg)(c:List Rat)(M:Nat):Prop where
 one:1≤M
 pn:∀j,aO (pn p j)≤M
 kt:∀j,aO (kt p c j)≤M
 tab:∀i,i<p.lp.m→∀j,aO (p.dZ.A i j)≤M
 B7:∀S,Inv p (au.pn p) S→Sz M S
 oE:∀S,Inv p (au.kt p c) S→Sz M S
 Rp:∀k,k≤p.lp.m→∀j,j≤p.w→aO (gK (p5 p.dZ (au.pn p)) (au.pn p) k j)≤2*M
 Rq:∀S,Inv p (au.pn p) S→∀k,k≤S.m→∀j,j≤S.n→aO (gK S (au.kt p c) k j)≤2*M
section
variable {p:Prg} {l c:List Rat} {D0 f k:Nat}
theorem Rr(hl:In l p)(wg:∀j,j<p.lp.n→fn c j∈l)(hb:kK D0 f p)(hk:Ex p k):Fits p c (bits l k p.lp.m f) where
 one:=by have:=Ey l k p.lp.m;unfold bits;omega
 pn j:=Rn (HQ j) _ _ _
 kt j:=Rn (Mb wg j) _ _ _
 tab i hi j:=by
  by_cases e:j=p.w
  ·subst e
   refine Nat.le_trans (Eu (e:=f) hb.pos (Rm hb hi) hb.le (Nat.le_refl _)) ?_
   have:=Ey l k p.lp.m;unfold bits;omega
  ·exact Rn (Rk hl hi e) _ _ _
 B7 S h:=h.sz hl hb hk B6 fun j _=>HQ j
 oE S h:=h.sz hl hb hk HR fun j _=>Mb wg j
 Rp:=YT (fun i hi=>nX p hi) rfl rfl ((Inv.base B6).bd hl hb hk B6 fun j _=>HQ j) hb.pos hb.le fun j _=>HQ j
 Rq S h:=YT h.wf.lt h.rows.m h.rows.n (h.bd hl hb hk B6 fun j _=>HQ j) hb.pos hb.le fun j _=>Mb wg j
theorem Y3{T:aq}(hl:In l p)(wg:∀j,j<p.lp.n→fn c j∈l)(hb:kK D0 f p)(hk:Ex p k)(h:I2 p c T):
  ∃D,0<D∧D≤2^iy l k p.lp.m∧aq.dV (D*D0) (2^(iy l k p.lp.m+f)) (-(T.c p.w))∧∀q,q∈aK (dB.vec p.lay.pF p.lay.mF T.pt) p.lp.n→aq.dV (D*D0) (2^(iy l k p.lp.m+f)) q:=by
 obtain⟨D,h1,h2,h3,h4⟩:=h.1.bd hl hb hk HR fun j _=>Mb wg j
 have hp:=Ey l k p.lp.m
 have hn:=h.1.rows.n
 have up:∀z,2^(iy l k p.lp.m-1+z)≤2^(iy l k p.lp.m+z):=fun z=>Nat.pow_le_pow_right (by decide) (by omega)
 refine⟨D,h1,Nat.le_trans h2 (up 0),?_,fun q hq=> ?_⟩
 ·have h5:=h4 p.w (by omega)
  rw[←hn,aq.y9,aq.y9]at h5
  rw[←hn]
  exact(h5.mono (up f)).neg
 ·have Y4:∀j,j<p.w→aq.dV (D*D0) (2^(iy l k p.lp.m-1+f)) (T.pt j):=fun j hj=>by
   by_cases hb:∃i,i<T.m∧T.B i=j
   ·obtain⟨i,hi,rfl⟩:=hb
    have h5:=h3 i hi p.w (by omega)
    rw[←hn,aq.y9,aq.y9]at h5
    rw[aq.PY h.1.wf hi];exact h5
   ·rw[aq.PZ (by omega) (fun i hi e=>absurd ⟨i,hi,e⟩ hb)]
    exact aq.Bw _ _
  unfold aK at hq
  obtain⟨j,hj,rfl⟩:=List.mem_map.1 hq
  have hj:=List.mem_range.1 hj
  have hm:aq.dV (D*D0) (2^(iy l k p.lp.m-1+f)) (ia T.pt (p.lay.mF j)):=by
   rw[B5 hj]
   by_cases hf:p.lp.free j=true
   ·rw[if_pos hf]
    have:=Em p hj
    unfold mN at this
    rw[if_pos hf]at this
    have:=mc p
    have:=fj p
    exact Y4 _ (by omega)
   ·rw[if_neg hf];exact aq.Bw _ _
  have h6:=(Y4 _ (nY.pw j hj)).sub hm
  refine h6.mono ?_
  rw[show iy l k p.lp.m+f=(iy l k p.lp.m-1+f)+1 by omega,Nat.pow_succ];omega
end
end Go.au
