/- Part 8 of the proof: Lay1, Mz, Mz2. -/
import Derived.Test.YtdjoookebbbjkaaGreatA07
set_option linter.unusedVariables false
namespace Go.aq
open Go.Proofs Num Lp
theorem jw(f:Nat→Rat)(k:Nat)(v:Rat):bT f k v k=v:=by simp[bT]
theorem eM{f:Nat→Rat}{k j:Nat}{v:Rat}(h:j≠k):bT f k v j=f j:=by simp[bT,h]
section
variable {p:Prg}
theorem Eh{a:Nat→Rat}{sg:Rat}{k x:Nat}(hk:k≤p.lp.n)(hx:a7 p.lp.free k≤x):jT p.lay a sg k x=0:=by
 induction k with
 | zero=>rfl
 | succ k ih=>
  have h1:a7 p.lp.free (k+1)=a7 p.lp.free k+1+(if p.lp.free k then 1 else 0):=rfl
  rw[BK,zq p (by omega),HA p (by omega)]
  unfold nr
  by_cases hf:p.lp.free k=true
  ·rw[if_pos hf]at h1
   rw[if_pos hf,if_pos (by omega),eM (by rw[Int.toNat_natCast];omega),eM (by omega)]
   exact ih (by omega) (by omega)
  ·rw[if_neg hf]at h1
   rw[if_neg hf,if_neg (by omega),eM (by omega)]
   exact ih (by omega) (by omega)
theorem Ei{a:Nat→Rat}{sg:Rat}{k j:Nat}(hk:k≤p.lp.n)(hj:j<k):jT p.lay a sg k (a7 p.lp.free j)=a j*sg∧(p.lp.free j=true→jT p.lay a sg k (a7 p.lp.free j+1) = -(a j*sg)):=by
 induction k with
 | zero=>omega
 | succ k ih=>
  rw[BK,zq p (by omega),HA p (by omega)]
  unfold nr
  by_cases e:j=k
  ·subst e
   by_cases hf:p.lp.free j=true
   ·rw[if_pos hf,if_pos (by omega),Int.toNat_natCast]
    refine⟨?_,fun _=>jw _ _ _⟩
    rw[eM (by omega),jw]
   ·rw[if_neg hf,if_neg (by omega),jw]
    exact⟨rfl,fun h=>absurd h hf⟩
  ·have hm:=BM (fr:=p.lp.free) (show j<k by omega)
   have vw:=ih (by omega) (by omega)
   by_cases hf:p.lp.free k=true
   ·rw[if_pos hf,if_pos (by omega),Int.toNat_natCast]
    refine⟨?_,fun h=> ?_⟩
    ·rw[eM (by omega),eM (by omega)];exact vw.1
    ·rw[if_pos h]at hm
     rw[eM (by omega),eM (by omega)];exact vw.2 h
   ·rw[if_neg hf,if_neg (by omega)]
    refine⟨?_,fun h=> ?_⟩
    ·rw[eM (by omega)];exact vw.1
    ·rw[if_pos h]at hm
     rw[eM (by omega)];exact vw.2 h
theorem LF{i:Nat}:p.c1≤p.unit i:=by
 show _≤qP _ _ _ _ _
 unfold qP
 split
 ·exact(sT _ _ _).2
 ·exact Nat.le_trans (mI p) (qQ _ _ _ _).2
theorem Ej{i:Nat}(h:fa (p.lp.rel i) (p.aH i)=true):(p.lp.rel i=1∧p.aH i=1)∨(p.lp.rel i=3∧p.aH i = -1):=by
 unfold fa at h
 rwa [decide_eq_true_eq]at h
theorem zr{i:Nat}(h:fa (p.lp.rel i) (p.aH i)=true):p.unit i=bB p.lp.rel p.c1 i:=by
 show qP _ _ _ _ _=_;unfold qP;rw[if_pos h]
theorem vT{i:Nat}(h:¬fa (p.lp.rel i) (p.aH i)=true):p.unit i=a8 p.lp.rel p.aH p.u i:=by
 show qP _ _ _ _ _=_;unfold qP;rw[if_neg h]
theorem Qh{rel:Nat→Int}{c i q:Nat}(hi:rel i≠2)(hq:rel q≠2)(h:q≠i):bB rel c q≠bB rel c i:=by
 rcases Nat.lt_or_gt_of_ne h with h | h
 ·have:=P4 (rel:=rel) (c:=c) h
  rw[if_neg hq]at this;omega
 ·have:=P4 (rel:=rel) (c:=c) h
  rw[if_neg hi]at this;omega
theorem BQ{i:Nat}(hi:i<p.lp.m)(hr:p.lp.rel i≠2):bB p.lp.rel p.c1 i<p.u:=by
 have:=Qg p hi hr
 unfold eW at this
 rw[if_neg hr]at this
 omega
theorem ahv{i q:Nat}(hi:i<p.lp.m)(hq:q<p.lp.m)(h:q≠i):p.unit q≠p.unit i:=by
 by_cases oi:fa (p.lp.rel i) (p.aH i)=true
 ·have ri:p.lp.rel i≠2:=by have:=Ej oi;omega
  by_cases oq:fa (p.lp.rel q) (p.aH q)=true
  ·have rq:p.lp.rel q≠2:=by have:=Ej oq;omega
   rw[zr oi,zr oq];exact Qh ri rq h
  ·rw[zr oi,vT oq]
   have:=BQ hi ri
   have:=(qQ p.lp.rel p.aH p.u q).2
   omega
 ·by_cases oq:fa (p.lp.rel q) (p.aH q)=true
  ·have rq:p.lp.rel q≠2:=by have:=Ej oq;omega
   rw[vT oi,zr oq]
   have:=BQ hq rq
   have:=(qQ p.lp.rel p.aH p.u i).2
   omega
  ·rw[vT oi,vT oq]
   rcases Nat.lt_or_gt_of_ne h with h | h
   ·have:=P5 (rel:=p.lp.rel) (sg:=p.aH) (u:=p.u) h
    rw[if_neg oq]at this;omega
   ·have:=P5 (rel:=p.lp.rel) (sg:=p.aH) (u:=p.u) h
    rw[if_neg oi]at this;omega
theorem Ym{i q:Nat}(hi:i<p.lp.m)(ri:p.lp.rel i≠2)(h:q≠i):p.unit q≠bB p.lp.rel p.c1 i:=by
 by_cases oq:fa (p.lp.rel q) (p.aH q)=true
 ·have rq:p.lp.rel q≠2:=by have:=Ej oq;omega
  rw[zr oq];exact Qh ri rq h
 ·rw[vT oq]
  have:=BQ hi ri
  have:=(qQ p.lp.rel p.aH p.u q).2
  omega
theorem BR(i:Nat):p.eh.A i=bT (bT (sL (jT p.lay (p.lp.a i) (p.aH i:Rat) p.lp.n) (p.lp.rel i) (eW p.lp.rel p.c1 i) (p.aH i:Rat)) (p.unit i) 1) p.w (p.lp.b i*(p.aH i:Rat)):=rfl
theorem Ek{f:Nat→Rat}{rel slack:Int}{sg:Rat}{x:Nat}(h:rel≠2→x≠slack.toNat):sL f rel slack sg x=f x:=by
 unfold sL
 split
 ·exact eM (h (by omega))
 ·split
  ·exact eM (h (by omega))
  ·rfl
theorem BS{i:Nat}(hr:p.lp.rel i≠2):(eW p.lp.rel p.c1 i).toNat=bB p.lp.rel p.c1 i:=by
 unfold eW;rw[if_neg hr,Int.toNat_natCast]
theorem Qj{i x:Nat}(hx:x<p.c1):p.eh.A i x=jT p.lay (p.lp.a i) (p.aH i:Rat) p.lp.n x:=by
 have h1:=mI p
 have h2:=fy p
 have h3:=LF (p:=p) (i:=i)
 rw[BR,eM (by omega),eM (by omega),Ek]
 intro hr
 rw[BS hr]
 have:=(sT p.lp.rel p.c1 i).2
 omega
theorem ahw{i j:Nat}(hj:j<p.lp.n):p.eh.A i (a7 p.lp.free j)=p.lp.a i j*(p.aH i:Rat):=by
 rw[Qj (HB p hj)];exact(Ei (Nat.le_refl _) hj).1
theorem ahx{i j:Nat}(hj:j<p.lp.n)(hf:p.lp.free j=true):p.eh.A i (a7 p.lp.free j+1) = -(p.lp.a i j*(p.aH i:Rat)):=by
 have:=HC p hj
 unfold nr at this
 rw[if_pos hf]at this
 rw[Qj (by omega)];exact(Ei (Nat.le_refl _) hj).2 hf
theorem ahy{i q:Nat}(hi:i<p.lp.m)(hv:p.lp.rel i=1∨p.lp.rel i=3):p.eh.A q (bB p.lp.rel p.c1 i)=if q=i then(if p.lp.rel i=1 then(p.aH i:Rat)else -(p.aH i:Rat))else 0:=by
 have hr:p.lp.rel i≠2:=by omega
 have h1:=BQ hi hr
 have h2:=fy p
 have h3:=(sT p.lp.rel p.c1 i).2
 rw[BR,eM (by omega)]
 by_cases e:q=i
 ·subst e
  rw[if_pos rfl]
  by_cases o:fa (p.lp.rel q) (p.aH q)=true
  ·rw[zr o,jw]
   rcases Ej o with ⟨k1,k2⟩ | ⟨k1,k2⟩
   ·rw[if_pos k1,k2];rfl
   ·rw[if_neg (by omega),k2];grind
  ·rw[eM (by rw[vT o];have:=(qQ p.lp.rel p.aH p.u q).2;omega)]
   unfold sL
   rw[BS hr]
   by_cases k1:p.lp.rel q=1
   ·rw[if_pos k1,if_pos k1,jw]
   ·rw[if_neg k1,if_neg k1,if_pos (by omega),jw]
 ·rw[if_neg e,eM (Ne.symm (Ym hi hr e)),Ek (fun hq=>by rw[BS hq];exact Ne.symm (Qh hr hq e))]
  exact Eh (Nat.le_refl _) h3
theorem Yn{i q:Nat}(hi:i<p.lp.m)(hq:q<p.lp.m):p.eh.A q (p.unit i)=if q=i then 1 else 0:=by
 have h1:=nU p hi
 rw[BR,eM (by omega)]
 by_cases e:q=i
 ·subst e
  rw[if_pos rfl,jw]
 ·rw[if_neg e,eM (Ne.symm (ahv hi hq e)),Ek]
  ·exact Eh (Nat.le_refl _) LF
  ·intro rq
   rw[BS rq]
   exact Ym hq rq (Ne.symm e)
theorem Yo(i:Nat):p.eh.A i p.w=p.lp.b i*(p.aH i:Rat)∧0≤p.eh.A i p.w:=by
 have h:p.eh.A i p.w=p.lp.b i*(p.aH i:Rat):=by rw[BR,jw]
 refine⟨h,?_⟩
 rw[h]
 show 0≤p.lp.b i*((kJ (p.lp.b i) (p.lp.rel i):Int):Rat)
 unfold kJ
 split
 ·rename_i hc
  have:p.lp.b i≤0:=by rcases hc with hc | hc <;> grind
  show 0≤p.lp.b i*((-1:Int):Rat)
  grind
 ·rename_i hc
  have:0≤p.lp.b i:=by
   have:¬p.lp.b i<0:=fun h=>hc (.inl h)
   grind
  show 0≤p.lp.b i*((1:Int):Rat)
  grind
def _root_.Lp.Prg.uy(p:Prg)(i:Nat):Option Nat:=if p.lp.rel i=2 then none else some (bB p.lp.rel p.c1 i)
theorem El{j:Nat}(h:j<p.lp.n):p.lay.mF j=if p.lp.free j then some (a7 p.lp.free j+1)else none:=by
 unfold TL.mF
 rw[HA p h]
 unfold nr
 by_cases hf:p.lp.free j=true
 ·rw[if_pos hf,if_pos hf,if_pos (by omega),Int.toNat_natCast]
 ·rw[if_neg hf,if_neg hf,if_neg (by omega)]
theorem Yp{i:Nat}(h:i<p.lp.m):p.lay.uF i=p.unit i:=by
 simp[TL.uF,Prg.lay,List.getD,h]
theorem Em{i:Nat}(h:i<p.lp.m):p.lay.sF i=(p.aH i:Rat):=by
 have:p.lay.jR[i]? = some ((p.aH i:Int):Rat):=dD (f:=fun i=>(p.aH i:Rat)) h
 exact m8 this
theorem ahz(f:Nat→Rat){k:Nat}(hk:k≤p.lp.n):aZ (a7 p.lp.free k) f=aZ k (fun j=>f (p.lay.pF j)+iB f (p.lay.mF j)):=by
 induction k with
 | zero=>rfl
 | succ k ih=>
  have h1:a7 p.lp.free (k+1)=a7 p.lp.free k+1+(if p.lp.free k then 1 else 0):=rfl
  rw[gn,←ih (by omega),zq p (by omega),El (by omega)]
  by_cases hf:p.lp.free k=true
  ·rw[if_pos hf]at h1⊢
   rw[h1,gn,gn]
   simp only[iB];grind
  ·rw[if_neg hf]at h1⊢
   rw[h1,Nat.add_zero,gn]
   simp only[iB];grind
theorem ahA(f:Nat→Rat)(k:Nat):aZ (bB p.lp.rel p.c1 k) f=aZ p.c1 f+aZ k (fun i=>iB f (p.uy i)):=by
 induction k with
 | zero=>rw[DD,Rat.add_zero];rfl
 | succ k ih=>
  have h1:bB p.lp.rel p.c1 (k+1)=bB p.lp.rel p.c1 k+(if p.lp.rel k=2 then 0 else 1):=rfl
  rw[gn]
  by_cases hr:p.lp.rel k=2
  ·rw[if_pos hr]at h1
   have:p.uy k=none:=by unfold Prg.uy;rw[if_pos hr]
   rw[h1,Nat.add_zero,this,ih]
   simp only[iB];grind
  ·rw[if_neg hr]at h1
   have:p.uy k=some (bB p.lp.rel p.c1 k):=by unfold Prg.uy;rw[if_neg hr]
   rw[h1,this,gn,ih]
   simp only[iB];grind
theorem LG(bO:p.Ok):dL p.lp p.eh.A p.w p.u p.lay.pF p.lay.mF p.uy p.lay.uF p.lay.sF where
 valid:=bO.valid
 uw:=fy p
 We i hi:=by
  rw[Em hi]
  rcases sS (p.lp.b i) (p.lp.rel i)with h | h
  ·left;show ((kJ _ _:Int):Rat)=1;rw[h];rfl
  ·right;show ((kJ _ _:Int):Rat) = -1;rw[h];rfl
 rhs i hi:=by rw[Em hi];exact Yo i
 pl j hj:=by
  rw[zq p hj]
  refine⟨Nat.lt_of_lt_of_le (HB p hj) (mI p),fun i hi=> ?_⟩
  rw[Em hi];exact ahw hj
 mi j hj:=by
  rw[El hj]
  refine⟨fun h=>by rw[h];rfl,fun k hk=> ?_⟩
  by_cases hf:p.lp.free j=true
  ·rw[if_pos hf]at hk
   cases hk
   have h1:=HC p hj
   unfold nr at h1
   rw[if_pos hf]at h1
   have h2:=mI p
   refine⟨by omega,fun i hi=> ?_⟩
   rw[Em hi];exact ahx hj hf
  ·rw[if_neg hf]at hk;cases hk
 Pc j hj hf:=by
  rw[El hj,if_pos hf];exact⟨_,rfl⟩
 sl i hi:=by
  refine⟨fun h=>by unfold Prg.uy;rw[if_pos h],fun h=>⟨_,by unfold Prg.uy;rw[if_neg h]⟩,fun k hk=> ?_⟩
  unfold Prg.uy at hk
  by_cases hr:p.lp.rel i=2
  ·rw[if_pos hr]at hk;cases hk
  ·rw[if_neg hr]at hk
   cases hk
   refine⟨BQ hi hr,fun q hq=> ?_⟩
   rw[Em hi]
   exact ahy hi (by have:=bO.valid i hi;omega)
 un i hi:=by
  rw[Yp hi]
  exact⟨nU p hi,fun q hq=>Yn hi hq⟩
 sum f:=by
  have h1:p.u=bB p.lp.rel p.c1 p.lp.m:=rfl
  rw[h1,ahA,show p.c1=a7 p.lp.free p.lp.n from rfl,ahz f (Nat.le_refl _)]
theorem oX:p.lay.Ok p.lp.n p.lp.m where
 Ld:=by simp[Prg.lay]
 Le:=by simp[Prg.lay]
 PE:=by simp[Prg.lay]
 PF:=bh _ _
 pw j hj:=by
  rw[zq p hj]
  have:=HB p hj;have:=mI p;have:=fy p
  show _<p.w;omega
 mw j hj:=by
  rw[HA p hj]
  have:=HC p hj;have:=mI p;have:=fy p
  show _<((p.w:Nat):Int);omega
 uw i hi:=by rw[Yp hi];exact nU p hi
 s1 i hi:=by rw[Em hi];exact Yl (sS _ _)
theorem ahB:p.eh.WF where
 lt i hi:=nU p hi
 unit i k hi hk:=Yn hi hk
 zero i hi:=rfl
theorem ahC:p.eh.jQ:=fun i _=>(Yo i).2
theorem ahD:av.Rows p.eh.A p.lp.m p.w p.eh:=av.afH (fun _ _=>rfl) rfl rfl
end
end Go.aq
namespace Go.aq
open Go.Proofs Num Lp
theorem LH{D X:Nat}{q:Rat}(D':Nat)(h:av.fq D X q):av.fq (D*D') (X*D') q:=by
 obtain⟨z,h1,h2⟩:=h
 refine⟨z*D',?_,?_⟩
 ·rw[Rat.natCast_mul,Rat.intCast_mul,←h1]
  have:((D':Int):Rat)=(D':Rat):=rfl
  rw[this];grind
 ·rw[Int.natAbs_mul,Int.natAbs_natCast];exact Nat.mul_le_mul_right _ h2
theorem ahE{D D' X Y:Nat}{q r:Rat}(h:av.fq D X q)(k:av.fq D' Y r):av.fq (D*D') (X*Y) (q*r):=by
 obtain⟨z,h1,h2⟩:=h
 obtain⟨y,k1,k2⟩:=k
 refine⟨z*y,?_,?_⟩
 ·rw[Rat.natCast_mul,Rat.intCast_mul,←h1,←k1];grind
 ·rw[Int.natAbs_mul];exact Nat.mul_le_mul h2 k2
theorem Qk{T:av}{f:Nat→Rat}{D D' X Y k j:Nat}(hB:∀i,i<T.m→T.B i<T.n)(hf:∀j,j<T.n→av.fq D X (f j))(hA:∀i,i<T.m→av.fq D' Y (T.A i j))(hk:k≤T.m)(hj:j≤T.n):
  av.fq (D*D') (X*D'+k*(X*Y)) (gU T f k j):=by
 unfold gU
 refine av.fq.sub ?_ (av.agd k _ fun i hi=>ahE (hf _ (hB i (by omega))) (hA i (by omega)))
 split
 ·exact av.K1 _ _
 ·exact LH _ (hf j (by omega))
theorem ahF(e:Nat):2^e<B^(e+1):=by
 have h1:2^(e+1)≤B^(e+1):=Nat.pow_le_pow_left (by decide) _
 have h2:2^e<2^(e+1):=Nat.pow_lt_pow_right (by decide) (by omega)
 omega
theorem HE{D X e:Nat}{q:Rat}(hD:0<D)(h:av.fq D X q)(h1:D≤2^e)(h2:X≤2^e):aM q≤e+1:=by
 have h3:=av.af8 hD h
 have h4:=ahF e
 unfold aM
 rw[Nat.max_le,jd,jd]
 omega
theorem HF{D D0 n j e f:Nat}(hD:D≤2^e)(h0:D0≤2^f):D*av.lY n j D0 1≤2^(e+f)∧2^(e+av.lY n j f 0)≤2^(e+f):=by
 have h1:(1:Nat)≤2^f:=Nat.one_le_two_pow
 unfold av.lY
 split
 ·exact⟨by rw[Nat.pow_add];exact Nat.mul_le_mul hD h0,Nat.le_refl _⟩
 ·exact⟨by rw[Nat.pow_add];exact Nat.mul_le_mul hD h1,Nat.pow_le_pow_right (by decide) (by omega)⟩
theorem Qm{D D0 n j:Nat}(hD:0<D)(h0:0<D0):0<D*av.lY n j D0 1:=Nat.mul_pos hD (by unfold av.lY;split <;> omega)
theorem ahG{D0 f e:Nat}{T:av}(h:av.Bd D0 f e T)(p0:0<D0)(h0:D0≤2^f):Sz (e+f+1) T:=by
 obtain⟨D,h1,h2,h3,h4⟩:=h
 exact⟨fun i hi j hj=>HE (Qm h1 p0) (h3 i hi j hj) (HF h2 h0).1 (HF (j:=j) (n:=T.n) h2 h0).2,fun j hj=>HE (Qm h1 p0) (h4 j hj) (HF h2 h0).1 (HF (j:=j) (n:=T.n) h2 h0).2⟩
def In(l:List Rat)(p:Prg):Prop:=∀i,i<p.lp.m→∀j,j<p.lp.n→p.lp.a i j∈l
structure HG(D0 f:Nat)(p:Prg):Prop where
 pos:0<D0
 le:D0≤2^f
 b:∀i,i<p.lp.m→av.fq D0 (2^f) (p.lp.b i)
theorem En{P:Rat→Prop}{f:Nat→Rat}{k:Nat}{q:Rat}(hf:∀j,P (f j))(hq:P q):∀j,P (bT f k q j):=fun j=>by
 unfold bT;split
 ·exact hq
 ·exact hf j
abbrev CM(l:List Rat)(q:Rat):Prop:=av.fq (av.iQ l) (2^(2*av.ix l)) q
section
variable {p:Prg} {l:List Rat}
theorem Yq{D X:Nat}{q:Rat}{s:Int}(h:av.fq D X q)(hs:s=1∨s = -1):av.fq D X (q*(s:Rat)):=by
 rcases hs with e | e
 ·rw[e,show q*((1:Int):Rat)=q by grind];exact h
 ·rw[e,show q*((-1:Int):Rat) = -q by grind];exact h.neg
theorem Yr:CM l 1:=av.WI l 1 (by decide)
theorem Ys{s:Int}(hs:s=1∨s = -1):CM l (s:Rat):=av.WI l s (by omega)
theorem Yt{a:Nat→Rat}{s:Int}(hs:s=1∨s = -1)(k:Nat)(ha:∀j,j<k→CM l (a j))(L:TL):∀j,CM l (jT L a (s:Rat) k j):=by
 induction k with
 | zero=>exact fun j=>av.K1 _ _
 | succ k ih=>
  have vw:=ih (fun j hj=>ha j (by omega))
  have h1:=Yq (ha k (by omega)) hs
  intro j
  rw[BK]
  split
  ·exact En (En vw h1) h1.neg j
  ·exact En vw h1 j
theorem Qn(h:In l p){i:Nat}(hi:i<p.lp.m){j:Nat}(hj:j≠p.w):CM l (p.eh.A i j):=by
 have hs:=sS (p.lp.b i) (p.lp.rel i)
 rw[BR,eM hj]
 refine En (fun j=> ?_) Yr j
 have h1:=Yt (l:=l) (L:=p.lay) hs p.lp.n (fun j hj=>av.Ps (h i hi j hj))
 unfold sL
 split
 ·exact En h1 (Ys hs) j
 ·split
  ·exact En h1 (Ys hs).neg j
  ·exact h1 j
theorem Qo{D0 f:Nat}(h:HG D0 f p){i:Nat}(hi:i<p.lp.m):av.fq D0 (2^f) (p.eh.A i p.w):=by
 rw[BR,jw]
 exact Yq (h.b i hi) (sS (p.lp.b i) (p.lp.rel i))
def pZ(T:av)(c0:Nat→Rat):av:={T with c:=gU T c0 T.m}
structure Inv(p:Prg)(c0:Nat→Rat)(S:av):Prop where
 wf:S.WF
 fp:S.jQ
 rows:av.Rows p.eh.A p.lp.m p.w S
 off:dL.tY p.eh.A p.lp.m p.w c0 S.c
theorem ahH{T:av}{c0:Nat→Rat}(hB:∀i,i<T.m→T.B i<T.n)(hu:∀i k,i<T.m→k<T.m→T.A k (T.B i)=if k=i then 1 else 0){i:Nat}(hi:i<T.m):gU T c0 T.m (T.B i)=0:=by
 unfold gU
 have h1:=hB i hi
 rw[if_neg (by omega),tW hi _ (fun k hk bA=>by rw[hu i k hi hk,if_neg bA];grind),hu i i hi hi,if_pos rfl]
 grind
theorem Inv.Yu{S:av}{c0:Nat→Rat}(h0:c0 p.w=0)(hW:S.WF)(hF:S.jQ)(hR:av.Rows p.eh.A p.lp.m p.w S):Inv p c0 (pZ S c0):=by
 have dN:av.Rows p.eh.A p.lp.m p.w (pZ S c0):=⟨hR.m,hR.n,hR.mul,hR.nN⟩
 refine⟨⟨hW.lt,hW.unit,fun i hi=>ahH hW.lt hW.unit hi⟩,hF,dN,hR.off c0 (fun i=>c0 (S.B i)) fun j hj=> ?_⟩
 show gU S c0 S.m j=_
 unfold gU
 rw[hR.m,hR.n]
 by_cases e:j=p.w
 ·rw[if_pos e,e,h0]
 ·rw[if_neg e]
theorem Inv.step{S:av}{c0:Nat→Rat}(h:Inv p c0 S){u r s:Nat}(hu:u≤S.n)(hb:S.oQ u r s):Inv p c0 (S.pivot r s):=by
 have hp:S.A r s≠0:=by have:=hb.pos;grind
 have hs:=hb.su
 have hr:=hb.rm
 exact⟨av.Be h.wf hr (by omega) hp,av.Gj h.fp hb,h.rows.pivot (by rw[←h.rows.m];exact hr) hp,h.rows.Pe h.off (by rw[←h.rows.m];exact hr)⟩
theorem Inv.same{S T:av}{c0:Nat→Rat}(h:Inv p c0 S)(h':Inv p c0 T):av.Same S T:=
 ⟨by rw[h.rows.m,h'.rows.m],by rw[h.rows.n,h'.rows.n],fun x=>by rw[h.rows.nN,h'.rows.nN],fun x hx=>by
  rw[h.rows.cost h.off hx,h'.rows.cost h'.off ((h'.rows.nN x).2 ((h.rows.nN x).1 hx))]⟩
theorem Yv(m:Nat):m+1≤2^m:=by
 induction m with
 | zero=>decide
 | succ m ih=>rw[Nat.pow_succ];omega
theorem ahI{D0 f:Nat}(h:In l p)(hb:HG D0 f p){c0:Nat→Rat}(hc:∀j,j<p.w→CM l (c0 j)):av.Bd D0 f (4*av.ix l+p.lp.m) (pZ p.eh c0):=by
 have hD:=av.KZ l
 have Qr:=av.DN l
 have hm:=Yv p.lp.m
 generalize sW:2^(2*av.ix l)=X at *
 have hX:1≤X:=by rw[←sW];exact Nat.one_le_two_pow
 have LI:av.iQ l≤X:=by rw[←sW];exact Nat.le_trans Qr (Nat.pow_le_pow_right (by decide) (by omega))
 have p2:2^(4*av.ix l+p.lp.m)=X*X*2^p.lp.m:=by rw[←sW,←Nat.pow_add,←Nat.pow_add];congr 1;omega
 have Yw:av.iQ l*av.iQ l≤X*X:=Nat.mul_le_mul LI LI
 have hXD:X*av.iQ l≤X*X:=Nat.mul_le_mul_left _ LI
 have hM:∀x,x≤X*X→x≤2^(4*av.ix l+p.lp.m):=fun x hx=>by
  rw[p2];exact Nat.le_trans hx (Nat.le_mul_of_pos_right _ (by omega))
 have tF:∀{q},CM l q→av.fq (av.iQ l) X q:=fun{q} h=>by rw[←sW];exact h
 have ou:(pZ p.eh c0).n=p.w:=rfl
 refine⟨av.iQ l*av.iQ l,Nat.mul_pos hD hD,hM _ Yw,fun i hi j hj=> ?_,fun j hj=> ?_⟩
 ·by_cases e:j=p.w
  ·subst e
   rw[←ou,av.KW,av.KW,Nat.mul_comm,ou]
   refine(LH (av.iQ l*av.iQ l) (Qo hb hi)).mono ?_
   rw[Nat.pow_add,Nat.mul_comm]
   exact Nat.mul_le_mul_right _ (hM _ Yw)
  ·rw[av.DL (by rw[ou]at hj⊢;omega),av.DL (by rw[ou]at hj⊢;omega),Nat.mul_one]
   exact(LH _ (tF (Qn h hi e))).mono (hM _ hXD)
 ·by_cases e:j=p.w
  ·subst e
   rw[←ou,av.KW,av.KW,ou]
   have h1:=LH (av.iQ l) (Qk (T:=p.eh) (k:=p.lp.m) (j:=p.w) (fun i hi=>nU p hi) (fun j hj=>tF (hc j hj)) (fun i hi=>Qo hb hi) (Nat.le_refl _) hj)
   rw[show av.iQ l*av.iQ l*D0=av.iQ l*D0*av.iQ l by rw[Nat.mul_assoc,Nat.mul_assoc,Nat.mul_comm D0]]
   refine h1.mono ?_
   have h2:X*D0≤X*2^f:=Nat.mul_le_mul_left _ hb.le
   have h3:X*D0+p.lp.m*(X*2^f)≤(p.lp.m+1)*(X*2^f):=by rw[Nat.succ_mul p.lp.m];omega
   refine Nat.le_trans (Nat.mul_le_mul h3 LI) ?_
   rw[Nat.pow_add,p2]
   have e4:(p.lp.m+1)*(X*2^f)*X=X*X*(p.lp.m+1)*2^f:=by
    rw[Nat.mul_comm _ X,Nat.mul_left_comm (p.lp.m+1) X,←Nat.mul_assoc,Nat.mul_assoc (X*X)]
   rw[e4]
   exact Nat.mul_le_mul_right _ (Nat.mul_le_mul_left _ hm)
  ·rw[av.DL (by rw[ou]at hj⊢;omega),av.DL (by rw[ou]at hj⊢;omega),Nat.mul_one]
   refine(Qk (T:=p.eh) (k:=p.lp.m) (fun i hi=>nU p hi) (fun j hj=>tF (hc j hj)) (fun i hi=>tF (Qn h hi e)) (Nat.le_refl _) hj).mono ?_
   rw[Nat.add_zero,p2]
   refine Nat.le_trans (m:=(p.lp.m+1)*(X*X)) ?_ (by rw[Nat.mul_comm];exact Nat.mul_le_mul_left _ hm)
   rw[Nat.succ_mul p.lp.m];omega
def uz(l:List Rat)(k m:Nat):Nat:=2^k*(4*av.ix l+m+1)
def bits(l:List Rat)(k m f:Nat):Nat:=uz l k m+f
theorem Inv.base{c0:Nat→Rat}(h0:c0 p.w=0):Inv p c0 (pZ p.eh c0):=Inv.Yu h0 ahB ahC ahD
def Eo(p:Prg)(k:Nat):Prop:=p.lp.m≤k∨p.w≤p.lp.m+k
theorem Inv.bd{D0 f k:Nat}{S:av}{c0:Nat→Rat}(h:Inv p c0 S)(hl:In l p)(hb:HG D0 f p)(hk:Eo p k)(h0:c0 p.w=0)(hc:∀j,j<p.w→CM l (c0 j)):av.Bd D0 f (uz l k p.lp.m-1) S:=by
 refine av.af5 (Inv.base h0).wf h.wf ((Inv.base h0).same h) (ahI hl hb hc) ?_
 rcases hk with hk | hk
 ·exact Nat.le_trans (av.af6 _ _) (by rw[h.rows.m];exact hk)
 ·have h1:=av.af7 (Inv.base h0).wf h.wf ((Inv.base h0).same h)
  have h2:(pZ p.eh c0).n=p.w:=rfl
  have h3:(pZ p.eh c0).m=p.lp.m:=rfl
  omega
theorem HH(l:List Rat)(k m:Nat):2*av.ix l+m+1≤uz l k m:=by
 unfold uz
 have h1:1≤2^k:=Nat.one_le_two_pow
 have h2:1*(4*av.ix l+m+1)≤2^k*(4*av.ix l+m+1):=Nat.mul_le_mul_right _ h1
 omega
theorem Inv.sz{D0 f k:Nat}{S:av}{c0:Nat→Rat}(h:Inv p c0 S)(hl:In l p)(hb:HG D0 f p)(hk:Eo p k)(h0:c0 p.w=0)(hc:∀j,j<p.w→CM l (c0 j)):Sz (bits l k p.lp.m f) S:=by
 have h1:=ahG (h.bd hl hb hk h0 hc) hb.pos hb.le
 have h2:=HH l k p.lp.m
 rwa [show uz l k p.lp.m-1+f+1=bits l k p.lp.m f by unfold bits;omega]at h1
theorem Qs{q:Rat}(h:CM l q)(k m f:Nat):aM q≤bits l k m f:=by
 have h2:=HH l k m
 refine Nat.le_trans (HE (e:=2*av.ix l) (av.KZ l) h ?_ (Nat.le_refl _)) (by unfold bits;omega)
 exact Nat.le_trans (av.DN l) (Nat.pow_le_pow_right (by decide) (by omega))
theorem Yx{D0 f k:Nat}{S:av}{c1:Nat→Rat}(hB:∀i,i<S.m→S.B i<S.n)(hm:S.m=p.lp.m)(hn:S.n=p.w)(hb:av.Bd D0 f (uz l k p.lp.m-1) S)(p0:0<D0)(h0:D0≤2^f)(hc:∀j,j<p.w→CM l (c1 j)):∀k',k'≤S.m→∀j,j≤S.n→aM (gU S c1 k' j)≤2*bits l k p.lp.m f:=by
 intro k' hk j hj
 obtain⟨D,h1,h2,h3,_⟩:=hb
 have hbp:=HH l k p.lp.m
 have hD:=av.KZ l
 have Qr:=av.DN l
 obtain⟨q1,q2⟩:=HF (j:=j) (n:=S.n) h2 h0
 have key:=Qk hB (fun j hj=>hc j (by omega)) (fun i hi=>h3 i hi j hj) hk hj
 refine Nat.le_trans (HE (e:=2*av.ix l+(uz l k p.lp.m-1+f)+p.lp.m) (Nat.mul_pos hD (Qm h1 p0)) key ?_ ?_) (by unfold bits;omega)
 ·refine Nat.le_trans (Nat.mul_le_mul Qr q1) ?_
  rw[←Nat.pow_add]
  exact Nat.pow_le_pow_right (by decide) (by omega)
 ·rw[Nat.pow_add _ _ p.lp.m,Nat.pow_add 2 (2*av.ix l) (uz l k p.lp.m-1+f)]
  generalize 2^(uz l k p.lp.m-1+f)=Z at *
  have g1:2^(2*av.ix l)*(D*av.lY S.n j D0 1)≤2^(2*av.ix l)*Z:=Nat.mul_le_mul_left _ q1
  have g3:k'*(2^(2*av.ix l)*2^(uz l k p.lp.m-1+av.lY S.n j f 0))≤k'*(2^(2*av.ix l)*Z):=Nat.mul_le_mul_left _ (Nat.mul_le_mul_left _ q2)
  have g2:=Yv p.lp.m
  refine Nat.le_trans (m:=(k'+1)*(2^(2*av.ix l)*Z)) (by rw[Nat.succ_mul k',Nat.add_comm];exact Nat.add_le_add g3 g1) ?_
  rw[Nat.mul_comm];exact Nat.mul_le_mul_left _ (by omega)
end
end Go.aq
namespace Go.aq
open Go.Proofs Num Lp
section
variable {p:LP}
theorem LJ{n:Nat}{a x x':Nat→Rat}(h:∀j,j<n→x j=x' j):cH n a x=cH n a x':=afC (fun _ _=>rfl) h
theorem gq.congr{t:Rat}{x x':Nat→Rat}(h:∀j,j<p.n→x j=x' j)(hm:p.gq t x):p.gq t x':=
 ⟨fun j hj hf=>by rw[←h j hj];exact hm.1 j hj hf,fun i hi=>by rw[←LJ h];exact hm.2 i hi⟩
theorem Signed.congr{y y':Nat→Rat}(h:∀i,i<p.m→y i=y' i)(hm:p.Signed y):p.Signed y':=fun i hi=>by rw[←h i hi];exact hm i hi
theorem Yy{y y':Nat→Rat}(h:∀i,i<p.m→y i=y' i)(j:Nat):p.kE y j=p.kE y' j:=eG fun i hi=>by rw[h i hi]
theorem Yz{y y':Nat→Rat}(h:∀i,i<p.m→y i=y' i):p.xe y=p.xe y':=eG fun i hi=>by rw[h i hi]
theorem yW.congr{c x x' y y':Nat→Rat}(hx:∀j,j<p.n→x j=x' j)(hy:∀i,i<p.m→y i=y' i)(h:p.yW c x y):p.yW c x' y':=
 ⟨gq.congr hx h.fp,Signed.congr hy h.signed,fun j hj=>by rw[←Yy hy];exact h.pP j hj,by rw[←Yz hy,←LJ hx];exact h.eq⟩
theorem yX.congr{y y':Nat→Rat}(hy:∀i,i<p.m→y i=y' i)(h:p.yX y):p.yX y':=
 ⟨Signed.congr hy h.signed,fun j hj=>by rw[←Yy hy];exact h.pP j hj,by rw[←Yz hy];exact h.pos⟩
theorem yY.congr{c x x' r r':Nat→Rat}(hx:∀j,j<p.n→x j=x' j)(hr:∀j,j<p.n→r j=r' j)(h:p.yY c x r):p.yY c x' r':=
 ⟨gq.congr hx h.fp,gq.congr hr h.oR,by rw[←LJ hr];exact h.neg⟩
end
section
variable {p:Prg} {l c:List Rat} {T:av}
abbrev pn(p:Prg):Nat→Rat:=av.js p.u p.w
abbrev ki(p:Prg)(c:List Rat):Nat→Rat:=jT p.lay (fn c) 1 p.lp.n
theorem BT:pn p p.w=0:=av.Wo _ _
theorem HI(j:Nat):CM l (pn p j):=by
 show CM l (av.js _ _ _)
 unfold av.js;split
 ·exact Yr
 ·exact av.K1 _ _
theorem LK:av.Gp p.lp p.w p.lay.pF p.lay.mF p.uy (fn c) (ki p c) where
 pl j hj:=by rw[zq p hj];show jT p.lay (fn c) 1 p.lp.n _=_;rw[(Ei (Nat.le_refl _) hj).1];grind
 mi j hj k hk:=by
  rw[El hj]at hk
  by_cases hf:p.lp.free j=true
  ·rw[if_pos hf]at hk;cases hk
   show jT p.lay (fn c) 1 p.lp.n _=_
   rw[(Ei (Nat.le_refl _) hj).2 hf];grind
  ·rw[if_neg hf]at hk;cases hk
 sl i hi k hk:=by
  unfold Prg.uy at hk
  split at hk
  ·cases hk
  ·cases hk
   exact Eh (Nat.le_refl _) (sT _ _ _).2
 last:=Eh (Nat.le_refl _) (Nat.le_trans (mI p) (fy p))
theorem LL:ki p c p.w=0:=(LK (p:=p) (c:=c)).last
theorem Qt(hc:∀j,j<p.lp.n→fn c j∈l)(j:Nat):CM l (ki p c j):=by
 have:=Yt (l:=l) (a:=fn c) (s:=1) (.inl rfl) p.lp.n (fun j hj=>av.Ps (hc j hj)) p.lay j
 exact this
theorem YA(bO:p.Ok)(h:Inv p (pn p) T)(hn:∀j,j<p.u→0≤T.c j)(gg:T.c p.w<0):Wx p (aK (fun i=>p.lay.sF i*(pn p (p.lay.uF i)-T.c (p.lay.uF i))) p.lp.m):=
 ⟨bO,bh _ _,yX.congr (fun i hi=>(DO hi).symm) (dL.afG (LG bO) h.off (fun j hj=>av.Pg hj) BT hn gg)⟩
theorem YB(h:Inv p (pn p) T)(hv:¬T.c p.w<0):av.Clean p.u 0 T:=
 av.Clean.start (av.Wp h.wf h.fp h.rows h.off (by grind)).2
theorem YC(h:Inv p (pn p) T){s:Nat}(hs:s<p.u)(gg:T.c s<0)(hA:∀i,i<T.m→T.A i s≤0):False:=
 av.afK h.wf h.rows h.off (Nat.lt_of_lt_of_le hs (fy p)) gg hA
def Jx(p:Prg)(k:Nat)(S:av):Prop:=Inv p (pn p) S∧av.Clean p.u k S
theorem Jx.skip{k:Nat}(h:Jx p k T)(hk:T.B k<p.u∨∀j,j<p.u→T.A k j=0):Jx p (k+1) T:=⟨h.1,h.2.skip hk⟩
theorem Jx.pivot{k s:Nat}(h:Jx p k T)(hk:k<T.m)(hu:p.u≤T.B k)(hs:s<p.u)(hp:T.A k s≠0):Jx p (k+1) (T.pivot k s):=by
 have mG:=fy p
 have hm:k<p.lp.m:=by rw[←h.1.rows.m];exact hk
 exact⟨⟨av.Be h.1.wf hk (by rw[h.1.rows.n];omega) hp,h.2.fp h.1.fp hk hu s,h.1.rows.pivot hm hp,h.1.rows.Pe h.1.off hm⟩,h.2.afM hk hu hs⟩
def I2(p:Prg)(c:List Rat)(S:av):Prop:=Inv p (ki p c) S∧av.Clean p.u S.m S
theorem I2.start(h:Jx p p.lp.m T):I2 p c (pZ T (ki p c)):=by
 have hc:=h.2
 rw[←h.1.rows.m]at hc
 exact⟨Inv.Yu LL h.1.wf h.1.fp h.1.rows,⟨hc.zero,hc.row⟩⟩
theorem I2.step{r s:Nat}(h:I2 p c T)(hb:T.oQ p.u r s):I2 p c (T.pivot r s):=
 ⟨h.1.step (by rw[h.1.rows.n];exact fy p) hb,h.2.Gn hb⟩
theorem YD(bO:p.Ok)(fj:c.length=p.free.length)(h:I2 p c T)(hn:∀j,j<p.u→0≤T.c j):
  Ph p c (aK (dL.vec p.lay.pF p.lay.mF T.pt) p.lp.n) (aK (fun i=>p.lay.sF i*(ki p c (p.lay.uF i)-T.c (p.lay.uF i))) p.lp.m)∧-(T.c p.w)=cH p.free.length (fn c) (fn (aK (dL.vec p.lay.pF p.lay.mF T.pt) p.lp.n)):=by
 have h1:=av.afN (LG bO) h.1.wf h.1.fp h.1.rows h.2 LK h.1.off hn
 have h2:=yW.congr (x':=fn (aK (dL.vec p.lay.pF p.lay.mF T.pt) p.lp.n)) (y':=fn (aK (fun i=>p.lay.sF i*(ki p c (p.lay.uF i)-T.c (p.lay.uF i))) p.lp.m)) (fun j hj=>(DO hj).symm) (fun i hi=>(DO hi).symm) h1
 refine⟨⟨⟨bO,bh _ _,h2.fp⟩,fj,bh _ _,h2⟩,?_⟩
 rw[←av.Wu (LG bO) h.1.wf h.1.rows h.2 LK h.1.off]
 exact LJ (n:=p.lp.n) fun j hj=>(DO hj).symm
theorem YE(bO:p.Ok)(fj:c.length=p.free.length)(h:I2 p c T){s:Nat}(hs:s<p.u)(gg:T.c s<0)(hA:∀i,i<T.m→T.A i s≤0):
  Wy p c (aK (dL.vec p.lay.pF p.lay.mF T.pt) p.lp.n) (aK (dL.vec p.lay.pF p.lay.mF (T.dir s)) p.lp.n):=by
 have h1:=av.afO (LG bO) h.1.wf h.1.fp h.1.rows h.2 LK h.1.off hs gg hA
 have h2:=yY.congr (x':=fn (aK (dL.vec p.lay.pF p.lay.mF T.pt) p.lp.n)) (r':=fn (aK (dL.vec p.lay.pF p.lay.mF (T.dir s)) p.lp.n)) (fun j hj=>(DO hj).symm) (fun j hj=>(DO hj).symm) h1
 exact⟨⟨bO,bh _ _,h2.fp⟩,fj,bh _ _,h2⟩
theorem Qu{N:Nat}(hW:T.WF)(hz:Sz N T)(h0:1≤N){j:Nat}(hj:j<T.n):aM (T.pt j)≤N:=by
 by_cases h:∃i,i<T.m∧T.B i=j
 ·obtain⟨i,hi,rfl⟩:=h
  rw[av.Wj hW hi];exact hz.A i hi _ (Nat.le_refl _)
 ·rw[av.Wl hj (fun i hi e=>absurd ⟨i,hi,e⟩ h)]
  exact Nat.le_trans (by decide) h0
theorem YF{N:Nat}(hW:T.WF)(hz:Sz N T)(h0:1≤N){s j:Nat}(hs:s≤T.n)(DZ:∀i,i<T.m→T.B i≠s):aM (T.dir s j)≤N:=by
 unfold av.dir
 by_cases e:j=s
 ·subst e
  rw[if_pos rfl,lA (fun i hi=>by rw[if_neg (DZ i hi)]),show (1:Rat)-0=1 by grind]
  exact Nat.le_trans (by decide) h0
 ·rw[if_neg e]
  by_cases h:∃i,i<T.m∧T.B i=j
  ·obtain⟨i,hi,rfl⟩:=h
   rw[tW hi _ (fun k hk bA=>by rw[if_neg (fun e'=>bA (hW.inj hk hi e'))]),if_pos rfl,show (0:Rat)-T.A i s = -(T.A i s) by grind,wX]
   exact hz.A i hi s hs
  ·rw[lA (fun i hi=>by rw[if_neg (fun e'=>h ⟨i,hi,e'⟩)]),show (0:Rat)-0=0 by grind]
   exact Nat.le_trans (by decide) h0
theorem YG(hW:T.WF){s:Nat}(gg:T.c s<0):∀i,i<T.m→T.B i≠s:=fun i hi e=>by
 have:=hW.zero i hi
 rw[e]at this;grind
end
structure Fits(p:Prg)(c:List Rat)(M:Nat):Prop where
 one:1≤M
 pn:∀j,aM (pn p j)≤M
 ki:∀j,aM (ki p c j)≤M
 tab:∀i,i<p.lp.m→∀j,aM (p.eh.A i j)≤M
 BU:∀S,Inv p (aq.pn p) S→Sz M S
 qq:∀S,Inv p (aq.ki p c) S→Sz M S
 Qw:∀k,k≤p.lp.m→∀j,j≤p.w→aM (gU (pZ p.eh (aq.pn p)) (aq.pn p) k j)≤2*M
 Qx:∀S,Inv p (aq.pn p) S→∀k,k≤S.m→∀j,j≤S.n→aM (gU S (aq.ki p c) k j)≤2*M
section
variable {p:Prg} {l c:List Rat} {D0 f k:Nat}
theorem ahJ(hl:In l p)(FF:∀j,j<p.lp.n→fn c j∈l)(hb:HG D0 f p)(hk:Eo p k):Fits p c (bits l k p.lp.m f) where
 one:=by have:=HH l k p.lp.m;unfold bits;omega
 pn j:=Qs (HI j) _ _ _
 ki j:=Qs (Qt FF j) _ _ _
 tab i hi j:=by
  by_cases e:j=p.w
  ·subst e
   refine Nat.le_trans (HE (e:=f) hb.pos (Qo hb hi) hb.le (Nat.le_refl _)) ?_
   have:=HH l k p.lp.m;unfold bits;omega
  ·exact Qs (Qn hl hi e) _ _ _
 BU S h:=h.sz hl hb hk BT fun j _=>HI j
 qq S h:=h.sz hl hb hk LL fun j _=>Qt FF j
 Qw:=Yx (fun i hi=>nU p hi) rfl rfl ((Inv.base BT).bd hl hb hk BT fun j _=>HI j) hb.pos hb.le fun j _=>HI j
 Qx S h:=Yx h.wf.lt h.rows.m h.rows.n (h.bd hl hb hk BT fun j _=>HI j) hb.pos hb.le fun j _=>Qt FF j
end
end Go.aq
