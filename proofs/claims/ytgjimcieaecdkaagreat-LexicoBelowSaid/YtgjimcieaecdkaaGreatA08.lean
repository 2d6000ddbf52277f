/- Part 8 of the proof: Mz, Mz2. -/
import Derived.Test.YtgjimcieaecdkaaGreatA07
set_option linter.unusedVariables false
namespace Go.ar
open Go.Proofs Num Lp
theorem yo{D X:Nat}{q:Rat}(D':Nat)(h:ao.cQ D X q):ao.cQ (D*D') (X*D') q:=by
 obtain⟨z,h1,h2⟩:=h
 refine⟨z*D',?_,?_⟩
 ·rw[Rat.natCast_mul,Rat.intCast_mul,←h1]
  have:((D':Int):Rat)=(D':Rat):=rfl
  rw[this];grind
 ·rw[Int.natAbs_mul,Int.natAbs_natCast];exact Nat.mul_le_mul_right _ h2
theorem PN{D D' X Y:Nat}{q r:Rat}(h:ao.cQ D X q)(k:ao.cQ D' Y r):ao.cQ (D*D') (X*Y) (q*r):=by
 obtain⟨z,h1,h2⟩:=h
 obtain⟨y,k1,k2⟩:=k
 refine⟨z*y,?_,?_⟩
 ·rw[Rat.natCast_mul,Rat.intCast_mul,←h1,←k1];grind
 ·rw[Int.natAbs_mul];exact Nat.mul_le_mul h2 k2
theorem Ju{T:ao}{f:Nat→Rat}{D D' X Y k j:Nat}(hB:∀i,i<T.m→T.B i<T.n)(hf:∀j,j<T.n→ao.cQ D X (f j))(hA:∀i,i<T.m→ao.cQ D' Y (T.A i j))(hk:k≤T.m)(hj:j≤T.n):
  ao.cQ (D*D') (X*D'+k*(X*Y)) (gO T f k j):=by
 unfold gO
 refine ao.cQ.sub ?_ (ao.Xc k _ fun i hi=>PN (hf _ (hB i (by omega))) (hA i (by omega)))
 split
 ·exact ao.vo _ _
 ·exact yo _ (hf j (by omega))
theorem Zq(e:Nat):2^e<B^(e+1):=by
 have h1:2^(e+1)≤B^(e+1):=Nat.pow_le_pow_left (by decide) _
 have h2:2^e<2^(e+1):=Nat.pow_lt_pow_right (by decide) (by omega)
 omega
theorem yp{D X e:Nat}{q:Rat}(hD:0<D)(h:ao.cQ D X q)(h1:D≤2^e)(h2:X≤2^e):aK q≤e+1:=by
 have h3:=ao.W7 hD h
 have h4:=Zq e
 unfold aK
 rw[Nat.max_le,gm,gm]
 omega
theorem BD{D D0 n j e f:Nat}(hD:D≤2^e)(h0:D0≤2^f):D*ao.jk n j D0 1≤2^(e+f)∧2^(e+ao.jk n j f 0)≤2^(e+f):=by
 have h1:(1:Nat)≤2^f:=Nat.one_le_two_pow
 unfold ao.jk
 split
 ·exact⟨by rw[Nat.pow_add];exact Nat.mul_le_mul hD h0,Nat.le_refl _⟩
 ·exact⟨by rw[Nat.pow_add];exact Nat.mul_le_mul hD h1,Nat.pow_le_pow_right (by decide) (by omega)⟩
theorem Jv{D D0 n j:Nat}(hD:0<D)(h0:0<D0):0<D*ao.jk n j D0 1:=Nat.mul_pos hD (by unfold ao.jk;split <;> omega)
theorem Zr{D0 f e:Nat}{T:ao}(h:ao.Bd D0 f e T)(p0:0<D0)(h0:D0≤2^f):Sz (e+f+1) T:=by
 obtain⟨D,h1,h2,h3,h4⟩:=h
 exact⟨fun i hi j hj=>yp (Jv h1 p0) (h3 i hi j hj) (BD h2 h0).1 (BD (j:=j) (n:=T.n) h2 h0).2,fun j hj=>yp (Jv h1 p0) (h4 j hj) (BD h2 h0).1 (BD (j:=j) (n:=T.n) h2 h0).2⟩
def In(l:List Rat)(p:Prg):Prop:=∀i,i<p.lp.m→∀j,j<p.lp.n→p.lp.a i j∈l
structure iy(D0 f:Nat)(p:Prg):Prop where
 pos:0<D0
 le:D0≤2^f
 b:∀i,i<p.lp.m→ao.cQ D0 (2^f) (p.lp.b i)
theorem yq{P:Rat→Prop}{f:Nat→Rat}{k:Nat}{q:Rat}(hf:∀j,P (f j))(hq:P q):∀j,P (ed f k q j):=fun j=>by
 unfold ed;split
 ·exact hq
 ·exact hf j
abbrev CM(l:List Rat)(q:Rat):Prop:=ao.cQ (ao.dV l) (2^(2*ao.cC l)) q
section
variable {p:Prg} {l:List Rat}
theorem PO{D X:Nat}{q:Rat}{s:Int}(h:ao.cQ D X q)(hs:s=1∨s = -1):ao.cQ D X (q*(s:Rat)):=by
 rcases hs with e | e
 ·rw[e,show q*((1:Int):Rat)=q by grind];exact h
 ·rw[e,show q*((-1:Int):Rat) = -q by grind];exact h.neg
theorem PQ:CM l 1:=ao.N1 l 1 (by decide)
theorem PR{s:Int}(hs:s=1∨s = -1):CM l (s:Rat):=ao.N1 l s (by omega)
theorem PS{a:Nat→Rat}{s:Int}(hs:s=1∨s = -1)(k:Nat)(ha:∀j,j<k→CM l (a j))(L:TL):∀j,CM l (g7 L a (s:Rat) k j):=by
 induction k with
 | zero=>exact fun j=>ao.vo _ _
 | succ k ih=>
  have pK:=ih (fun j hj=>ha j (by omega))
  have h1:=PO (ha k (by omega)) hs
  intro j
  rw[vG]
  split
  ·exact yq (yq pK h1) h1.neg j
  ·exact yq pK h1 j
theorem Jw(h:In l p){i:Nat}(hi:i<p.lp.m){j:Nat}(hj:j≠p.w):CM l (p.ee.A i j):=by
 have hs:=yh (p.lp.b i) (p.lp.rel i)
 rw[yl,iS hj]
 refine yq (fun j=> ?_) PQ j
 have h1:=PS (l:=l) (L:=p.lay) hs p.lp.n (fun j hj=>ao.Es (h i hi j hj))
 unfold oX
 split
 ·exact yq h1 (PR hs) j
 ·split
  ·exact yq h1 (PR hs).neg j
  ·exact h1 j
theorem Jy{D0 f:Nat}(h:iy D0 f p){i:Nat}(hi:i<p.lp.m):ao.cQ D0 (2^f) (p.ee.A i p.w):=by
 rw[yl,rF]
 exact PO (h.b i hi) (yh (p.lp.b i) (p.lp.rel i))
def rG(T:ao)(c0:Nat→Rat):ao:={T with c:=gO T c0 T.m}
structure Inv(p:Prg)(c0:Nat→Rat)(S:ao):Prop where
 wf:S.WF
 cT:S.ji
 rows:ao.Rows p.ee.A p.lp.m p.w S
 off:cP.oT p.ee.A p.lp.m p.w c0 S.c
theorem Zs{T:ao}{c0:Nat→Rat}(hB:∀i,i<T.m→T.B i<T.n)(hu:∀i k,i<T.m→k<T.m→T.A k (T.B i)=if k=i then 1 else 0){i:Nat}(hi:i<T.m):gO T c0 T.m (T.B i)=0:=by
 unfold gO
 have h1:=hB i hi
 rw[if_neg (by omega),nM hi _ (fun k hk a6=>by rw[hu i k hi hk,if_neg a6];grind),hu i i hi hi,if_pos rfl]
 grind
theorem Inv.PT{S:ao}{c0:Nat→Rat}(h0:c0 p.w=0)(hW:S.WF)(hF:S.ji)(hR:ao.Rows p.ee.A p.lp.m p.w S):Inv p c0 (rG S c0):=by
 have cN:ao.Rows p.ee.A p.lp.m p.w (rG S c0):=⟨hR.m,hR.n,hR.mul,hR.kt⟩
 refine⟨⟨hW.lt,hW.unit,fun i hi=>Zs hW.lt hW.unit hi⟩,hF,cN,hR.off c0 (fun i=>c0 (S.B i)) fun j hj=> ?_⟩
 show gO S c0 S.m j=_
 unfold gO
 rw[hR.m,hR.n]
 by_cases e:j=p.w
 ·rw[if_pos e,e,h0]
 ·rw[if_neg e]
theorem Inv.step{S:ao}{c0:Nat→Rat}(h:Inv p c0 S){u r s:Nat}(hu:u≤S.n)(hb:S.p5 u r s):Inv p c0 (S.bP r s):=by
 have hp:S.A r s≠0:=by have:=hb.pos;grind
 have hs:=hb.su
 have hr:=hb.rm
 exact⟨ao.xz h.wf hr (by omega) hp,ao.Ib h.cT hb,h.rows.bP (by rw[←h.rows.m];exact hr) hp,h.rows.ND h.off (by rw[←h.rows.m];exact hr)⟩
theorem Inv.same{S T:ao}{c0:Nat→Rat}(h:Inv p c0 S)(h':Inv p c0 T):ao.gp S T:=
 ⟨by rw[h.rows.m,h'.rows.m],by rw[h.rows.n,h'.rows.n],fun x=>by rw[h.rows.kt,h'.rows.kt],fun x hx=>by
  rw[h.rows.cost h.off hx,h'.rows.cost h'.off ((h'.rows.kt x).2 ((h.rows.kt x).1 hx))]⟩
theorem PU(m:Nat):m+1≤2^m:=by
 induction m with
 | zero=>decide
 | succ m ih=>rw[Nat.pow_succ];omega
theorem Zt{D0 f:Nat}(h:In l p)(hb:iy D0 f p){c0:Nat→Rat}(hc:∀j,j<p.w→CM l (c0 j)):ao.Bd D0 f (4*ao.cC l+p.lp.m) (rG p.ee c0):=by
 have hD:=ao.Aa l
 have yr:=ao.vn l
 have hm:=PU p.lp.m
 generalize Fk:2^(2*ao.cC l)=X at *
 have hX:1≤X:=by rw[←Fk];exact Nat.one_le_two_pow
 have Fl:ao.dV l≤X:=by rw[←Fk];exact Nat.le_trans yr (Nat.pow_le_pow_right (by decide) (by omega))
 have p2:2^(4*ao.cC l+p.lp.m)=X*X*2^p.lp.m:=by rw[←Fk,←Nat.pow_add,←Nat.pow_add];congr 1;omega
 have PV:ao.dV l*ao.dV l≤X*X:=Nat.mul_le_mul Fl Fl
 have Zu:X*ao.dV l≤X*X:=Nat.mul_le_mul_left _ Fl
 have hM:∀x,x≤X*X→x≤2^(4*ao.cC l+p.lp.m):=fun x hx=>by
  rw[p2];exact Nat.le_trans hx (Nat.le_mul_of_pos_right _ (by omega))
 have sm:∀{q},CM l q→ao.cQ (ao.dV l) X q:=fun{q} h=>by rw[←Fk];exact h
 have lK:(rG p.ee c0).n=p.w:=rfl
 refine⟨ao.dV l*ao.dV l,Nat.mul_pos hD hD,hM _ PV,fun i hi j hj=> ?_,fun j hj=> ?_⟩
 ·by_cases e:j=p.w
  ·subst e
   rw[←lK,ao.s5,ao.s5,Nat.mul_comm,lK]
   refine(yo (ao.dV l*ao.dV l) (Jy hb hi)).mono ?_
   rw[Nat.pow_add,Nat.mul_comm]
   exact Nat.mul_le_mul_right _ (hM _ PV)
  ·rw[ao.xO (by rw[lK]at hj⊢;omega),ao.xO (by rw[lK]at hj⊢;omega),Nat.mul_one]
   exact(yo _ (sm (Jw h hi e))).mono (hM _ Zu)
 ·by_cases e:j=p.w
  ·subst e
   rw[←lK,ao.s5,ao.s5,lK]
   have h1:=yo (ao.dV l) (Ju (T:=p.ee) (k:=p.lp.m) (j:=p.w) (fun i hi=>rE p hi) (fun j hj=>sm (hc j hj)) (fun i hi=>Jy hb hi) (Nat.le_refl _) hj)
   rw[show ao.dV l*ao.dV l*D0=ao.dV l*D0*ao.dV l by rw[Nat.mul_assoc,Nat.mul_assoc,Nat.mul_comm D0]]
   refine h1.mono ?_
   have h2:X*D0≤X*2^f:=Nat.mul_le_mul_left _ hb.le
   have h3:X*D0+p.lp.m*(X*2^f)≤(p.lp.m+1)*(X*2^f):=by rw[Nat.succ_mul p.lp.m];omega
   refine Nat.le_trans (Nat.mul_le_mul h3 Fl) ?_
   rw[Nat.pow_add,p2]
   have e4:(p.lp.m+1)*(X*2^f)*X=X*X*(p.lp.m+1)*2^f:=by
    rw[Nat.mul_comm _ X,Nat.mul_left_comm (p.lp.m+1) X,←Nat.mul_assoc,Nat.mul_assoc (X*X)]
   rw[e4]
   exact Nat.mul_le_mul_right _ (Nat.mul_le_mul_left _ hm)
  ·rw[ao.xO (by rw[lK]at hj⊢;omega),ao.xO (by rw[lK]at hj⊢;omega),Nat.mul_one]
   refine(Ju (T:=p.ee) (k:=p.lp.m) (fun i hi=>rE p hi) (fun j hj=>sm (hc j hj)) (fun i hi=>sm (Jw h hi e)) (Nat.le_refl _) hj).mono ?_
   rw[Nat.add_zero,p2]
   refine Nat.le_trans (m:=(p.lp.m+1)*(X*X)) ?_ (by rw[Nat.mul_comm];exact Nat.mul_le_mul_left _ hm)
   rw[Nat.succ_mul p.lp.m];omega
def e7(l:List Rat)(k m:Nat):Nat:=2^k*(4*ao.cC l+m+1)
def bits(l:List Rat)(k m f:Nat):Nat:=e7 l k m+f
theorem Inv.base{c0:Nat→Rat}(h0:c0 p.w=0):Inv p c0 (rG p.ee c0):=Inv.PT h0 Zn Zo Zp
def yt(p:Prg)(k:Nat):Prop:=p.lp.m≤k∨p.w≤p.lp.m+k
theorem Inv.bd{D0 f k:Nat}{S:ao}{c0:Nat→Rat}(h:Inv p c0 S)(hl:In l p)(hb:iy D0 f p)(hk:yt p k)(h0:c0 p.w=0)(hc:∀j,j<p.w→CM l (c0 j)):ao.Bd D0 f (e7 l k p.lp.m-1) S:=by
 refine ao.W4 (Inv.base h0).wf h.wf ((Inv.base h0).same h) (Zt hl hb hc) ?_
 rcases hk with hk | hk
 ·exact Nat.le_trans (ao.W5 _ _) (by rw[h.rows.m];exact hk)
 ·have h1:=ao.W6 (Inv.base h0).wf h.wf ((Inv.base h0).same h)
  have h2:(rG p.ee c0).n=p.w:=rfl
  have h3:(rG p.ee c0).m=p.lp.m:=rfl
  omega
theorem yu(l:List Rat)(k m:Nat):2*ao.cC l+m+1≤e7 l k m:=by
 unfold e7
 have h1:1≤2^k:=Nat.one_le_two_pow
 have h2:1*(4*ao.cC l+m+1)≤2^k*(4*ao.cC l+m+1):=Nat.mul_le_mul_right _ h1
 omega
theorem Inv.sz{D0 f k:Nat}{S:ao}{c0:Nat→Rat}(h:Inv p c0 S)(hl:In l p)(hb:iy D0 f p)(hk:yt p k)(h0:c0 p.w=0)(hc:∀j,j<p.w→CM l (c0 j)):Sz (bits l k p.lp.m f) S:=by
 have h1:=Zr (h.bd hl hb hk h0 hc) hb.pos hb.le
 have h2:=yu l k p.lp.m
 rwa [show e7 l k p.lp.m-1+f+1=bits l k p.lp.m f by unfold bits;omega]at h1
theorem Jz{q:Rat}(h:CM l q)(k m f:Nat):aK q≤bits l k m f:=by
 have h2:=yu l k m
 refine Nat.le_trans (yp (e:=2*ao.cC l) (ao.Aa l) h ?_ (Nat.le_refl _)) (by unfold bits;omega)
 exact Nat.le_trans (ao.vn l) (Nat.pow_le_pow_right (by decide) (by omega))
theorem PW{D0 f k:Nat}{S:ao}{c1:Nat→Rat}(hB:∀i,i<S.m→S.B i<S.n)(hm:S.m=p.lp.m)(hn:S.n=p.w)(hb:ao.Bd D0 f (e7 l k p.lp.m-1) S)(p0:0<D0)(h0:D0≤2^f)(hc:∀j,j<p.w→CM l (c1 j)):∀k',k'≤S.m→∀j,j≤S.n→aK (gO S c1 k' j)≤2*bits l k p.lp.m f:=by
 intro k' hk j hj
 obtain⟨D,h1,h2,h3,_⟩:=hb
 have hbp:=yu l k p.lp.m
 have hD:=ao.Aa l
 have yr:=ao.vn l
 obtain⟨q1,q2⟩:=BD (j:=j) (n:=S.n) h2 h0
 have key:=Ju hB (fun j hj=>hc j (by omega)) (fun i hi=>h3 i hi j hj) hk hj
 refine Nat.le_trans (yp (e:=2*ao.cC l+(e7 l k p.lp.m-1+f)+p.lp.m) (Nat.mul_pos hD (Jv h1 p0)) key ?_ ?_) (by unfold bits;omega)
 ·refine Nat.le_trans (Nat.mul_le_mul yr q1) ?_
  rw[←Nat.pow_add]
  exact Nat.pow_le_pow_right (by decide) (by omega)
 ·rw[Nat.pow_add _ _ p.lp.m,Nat.pow_add 2 (2*ao.cC l) (e7 l k p.lp.m-1+f)]
  generalize 2^(e7 l k p.lp.m-1+f)=Z at *
  have g1:2^(2*ao.cC l)*(D*ao.jk S.n j D0 1)≤2^(2*ao.cC l)*Z:=Nat.mul_le_mul_left _ q1
  have g3:k'*(2^(2*ao.cC l)*2^(e7 l k p.lp.m-1+ao.jk S.n j f 0))≤k'*(2^(2*ao.cC l)*Z):=Nat.mul_le_mul_left _ (Nat.mul_le_mul_left _ q2)
  have g2:=PU p.lp.m
  refine Nat.le_trans (m:=(k'+1)*(2^(2*ao.cC l)*Z)) (by rw[Nat.succ_mul k',Nat.add_comm];exact Nat.add_le_add g3 g1) ?_
  rw[Nat.mul_comm];exact Nat.mul_le_mul_left _ (by omega)
end
end Go.ar
namespace Go.ar
open Go.Proofs Num Lp
section
variable {p:LP}
theorem Fm{n:Nat}{a x x':Nat→Rat}(h:∀j,j<n→x j=x' j):a5 n a x=a5 n a x':=Wp (fun _ _=>rfl) h
theorem cO.congr{t:Rat}{x x':Nat→Rat}(h:∀j,j<p.n→x j=x' j)(hm:p.cO t x):p.cO t x':=
 ⟨fun j hj hf=>by rw[←h j hj];exact hm.1 j hj hf,fun i hi=>by rw[←Fm h];exact hm.2 i hi⟩
theorem Signed.congr{y y':Nat→Rat}(h:∀i,i<p.m→y i=y' i)(hm:p.Signed y):p.Signed y':=fun i hi=>by rw[←h i hi];exact hm i hi
theorem PX{y y':Nat→Rat}(h:∀i,i<p.m→y i=y' i)(j:Nat):p.gq y j=p.gq y' j:=ec fun i hi=>by rw[h i hi]
theorem PY{y y':Nat→Rat}(h:∀i,i<p.m→y i=y' i):p.p7 y=p.p7 y':=ec fun i hi=>by rw[h i hi]
theorem sY.congr{c x x' y y':Nat→Rat}(hx:∀j,j<p.n→x j=x' j)(hy:∀i,i<p.m→y i=y' i)(h:p.sY c x y):p.sY c x' y':=
 ⟨cO.congr hx h.cT,Signed.congr hy h.signed,fun j hj=>by rw[←PX hy];exact h.gu j hj,by rw[←PY hy,←Fm hx];exact h.eq⟩
theorem sZ.congr{y y':Nat→Rat}(hy:∀i,i<p.m→y i=y' i)(h:p.sZ y):p.sZ y':=
 ⟨Signed.congr hy h.signed,fun j hj=>by rw[←PX hy];exact h.gu j hj,by rw[←PY hy];exact h.pos⟩
theorem s3.congr{c x x' r r':Nat→Rat}(hx:∀j,j<p.n→x j=x' j)(hr:∀j,j<p.n→r j=r' j)(h:p.s3 c x r):p.s3 c x' r':=
 ⟨cO.congr hx h.cT,cO.congr hr h.ray,by rw[←Fm hr];exact h.neg⟩
end
section
variable {p:Prg} {l c:List Rat} {T:ao}
abbrev pn(p:Prg):Nat→Rat:=ao.gY p.u p.w
abbrev js(p:Prg)(c:List Rat):Nat→Rat:=g7 p.lay (fn c) 1 p.lp.n
theorem yv:pn p p.w=0:=ao.NK _ _
theorem BE(j:Nat):CM l (pn p j):=by
 show CM l (ao.gY _ _ _)
 unfold ao.gY;split
 ·exact PQ
 ·exact ao.vo _ _
theorem Fo:ao.z4 p.lp p.w p.lay.pF p.lay.mF p.o0 (fn c) (js p c) where
 pl j hj:=by rw[vL p hj];show g7 p.lay (fn c) 1 p.lp.n _=_;rw[(Fh (Nat.le_refl _) hj).1];grind
 mi j hj k hk:=by
  rw[ym hj]at hk
  by_cases hf:p.lp.free j=true
  ·rw[if_pos hf]at hk;cases hk
   show g7 p.lay (fn c) 1 p.lp.n _=_
   rw[(Fh (Nat.le_refl _) hj).2 hf];grind
  ·rw[if_neg hf]at hk;cases hk
 sl i hi k hk:=by
  unfold Prg.o0 at hk
  split at hk
  ·cases hk
  ·cases hk
   exact Fg (Nat.le_refl _) (rC _ _ _).2
 last:=Fg (Nat.le_refl _) (Nat.le_trans (oZ p) (jr p))
theorem JA:js p c p.w=0:=(Fo (p:=p) (c:=c)).last
theorem Fp(hc:∀j,j<p.lp.n→fn c j∈l)(j:Nat):CM l (js p c j):=by
 have:=PS (l:=l) (a:=fn c) (s:=1) (.inl rfl) p.lp.n (fun j hj=>ao.Es (hc j hj)) p.lay j
 exact this
theorem Zv(a8:p.Ok)(h:Inv p (pn p) T)(hn:∀j,j<p.u→0≤T.c j)(fN:T.c p.w<0):Eh p (aN (fun i=>p.lay.sF i*(pn p (p.lay.uF i)-T.c (p.lay.uF i))) p.lp.m):=
 ⟨a8,cE _ _,sZ.congr (fun i hi=>(xP hi).symm) (cP.Wv (Fj a8) h.off (fun j hj=>ao.Wz hj) yv hn fN)⟩
theorem Zw(h:Inv p (pn p) T)(hv:¬T.c p.w<0):ao.Clean p.u 0 T:=
 ao.Clean.start (ao.WC h.wf h.cT h.rows h.off (by grind)).2
theorem Zx(h:Inv p (pn p) T){s:Nat}(hs:s<p.u)(fN:T.c s<0)(hA:∀i,i<T.m→T.A i s≤0):False:=
 ao.WA h.wf h.rows h.off (Nat.lt_of_lt_of_le hs (jr p)) fN hA
def Jx(p:Prg)(k:Nat)(S:ao):Prop:=Inv p (pn p) S∧ao.Clean p.u k S
theorem Jx.skip{k:Nat}(h:Jx p k T)(hk:T.B k<p.u∨∀j,j<p.u→T.A k j=0):Jx p (k+1) T:=⟨h.1,h.2.skip hk⟩
theorem Jx.bP{k s:Nat}(h:Jx p k T)(hk:k<T.m)(hu:p.u≤T.B k)(hs:s<p.u)(hp:T.A k s≠0):Jx p (k+1) (T.bP k s):=by
 have kz:=jr p
 have hm:k<p.lp.m:=by rw[←h.1.rows.m];exact hk
 exact⟨⟨ao.xz h.1.wf hk (by rw[h.1.rows.n];omega) hp,h.2.cT h.1.cT hk hu s,h.1.rows.bP hm hp,h.1.rows.ND h.1.off hm⟩,h.2.WD hk hu hs⟩
def I2(p:Prg)(c:List Rat)(S:ao):Prop:=Inv p (js p c) S∧ao.Clean p.u S.m S
theorem I2.start(h:Jx p p.lp.m T):I2 p c (rG T (js p c)):=by
 have hc:=h.2
 rw[←h.1.rows.m]at hc
 exact⟨Inv.PT JA h.1.wf h.1.cT h.1.rows,⟨hc.zero,hc.row⟩⟩
theorem I2.step{r s:Nat}(h:I2 p c T)(hb:T.p5 p.u r s):I2 p c (T.bP r s):=
 ⟨h.1.step (by rw[h.1.rows.n];exact jr p) hb,h.2.WE hb⟩
theorem Zy(a8:p.Ok)(gC:c.length=p.free.length)(h:I2 p c T)(hn:∀j,j<p.u→0≤T.c j):
  xC p c (aN (cP.vec p.lay.pF p.lay.mF T.pt) p.lp.n) (aN (fun i=>p.lay.sF i*(js p c (p.lay.uF i)-T.c (p.lay.uF i))) p.lp.m)∧-(T.c p.w)=a5 p.free.length (fn c) (fn (aN (cP.vec p.lay.pF p.lay.mF T.pt) p.lp.n)):=by
 have h1:=ao.WG (Fj a8) h.1.wf h.1.cT h.1.rows h.2 Fo h.1.off hn
 have h2:=sY.congr (x':=fn (aN (cP.vec p.lay.pF p.lay.mF T.pt) p.lp.n)) (y':=fn (aN (fun i=>p.lay.sF i*(js p c (p.lay.uF i)-T.c (p.lay.uF i))) p.lp.m)) (fun j hj=>(xP hj).symm) (fun i hi=>(xP hi).symm) h1
 refine⟨⟨⟨a8,cE _ _,h2.cT⟩,gC,cE _ _,h2⟩,?_⟩
 rw[←ao.NP (Fj a8) h.1.wf h.1.rows h.2 Fo h.1.off]
 exact Fm (n:=p.lp.n) fun j hj=>(xP hj).symm
theorem Zz(a8:p.Ok)(gC:c.length=p.free.length)(h:I2 p c T){s:Nat}(hs:s<p.u)(fN:T.c s<0)(hA:∀i,i<T.m→T.A i s≤0):
  Ei p c (aN (cP.vec p.lay.pF p.lay.mF T.pt) p.lp.n) (aN (cP.vec p.lay.pF p.lay.mF (T.dir s)) p.lp.n):=by
 have h1:=ao.WH (Fj a8) h.1.wf h.1.cT h.1.rows h.2 Fo h.1.off hs fN hA
 have h2:=s3.congr (x':=fn (aN (cP.vec p.lay.pF p.lay.mF T.pt) p.lp.n)) (r':=fn (aN (cP.vec p.lay.pF p.lay.mF (T.dir s)) p.lp.n)) (fun j hj=>(xP hj).symm) (fun j hj=>(xP hj).symm) h1
 exact⟨⟨a8,cE _ _,h2.cT⟩,gC,cE _ _,h2⟩
theorem JB{N:Nat}(hW:T.WF)(hz:Sz N T)(h0:1≤N){j:Nat}(hj:j<T.n):aK (T.pt j)≤N:=by
 by_cases h:∃i,i<T.m∧T.B i=j
 ·obtain⟨i,hi,rfl⟩:=h
  rw[ao.Ir hW hi];exact hz.A i hi _ (Nat.le_refl _)
 ·rw[ao.Is hj (fun i hi e=>absurd ⟨i,hi,e⟩ h)]
  exact Nat.le_trans (by decide) h0
theorem PZ{N:Nat}(hW:T.WF)(hz:Sz N T)(h0:1≤N){s j:Nat}(hs:s≤T.n)(x5:∀i,i<T.m→T.B i≠s):aK (T.dir s j)≤N:=by
 unfold ao.dir
 by_cases e:j=s
 ·subst e
  rw[if_pos rfl,ks (fun i hi=>by rw[if_neg (x5 i hi)]),show (1:Rat)-0=1 by grind]
  exact Nat.le_trans (by decide) h0
 ·rw[if_neg e]
  by_cases h:∃i,i<T.m∧T.B i=j
  ·obtain⟨i,hi,rfl⟩:=h
   rw[nM hi _ (fun k hk a6=>by rw[if_neg (fun e'=>a6 (hW.inj hk hi e'))]),if_pos rfl,show (0:Rat)-T.A i s = -(T.A i s) by grind,xh]
   exact hz.A i hi s hs
  ·rw[ks (fun i hi=>by rw[if_neg (fun e'=>h ⟨i,hi,e'⟩)]),show (0:Rat)-0=0 by grind]
   exact Nat.le_trans (by decide) h0
theorem P0(hW:T.WF){s:Nat}(fN:T.c s<0):∀i,i<T.m→T.B i≠s:=fun i hi e=>by
 have:=hW.zero i hi
 rw[e]at this;grind
end
structure Fits(p:Prg)(c:List Rat)(M:Nat):Prop where
 one:1≤M
 pn:∀j,aK (pn p j)≤M
 js:∀j,aK (js p c j)≤M
 tab:∀i,i<p.lp.m→∀j,aK (p.ee.A i j)≤M
 yw:∀S,Inv p (ar.pn p) S→Sz M S
 oE:∀S,Inv p (ar.js p c) S→Sz M S
 P3:∀k,k≤p.lp.m→∀j,j≤p.w→aK (gO (rG p.ee (ar.pn p)) (ar.pn p) k j)≤2*M
 P4:∀S,Inv p (ar.pn p) S→∀k,k≤S.m→∀j,j≤S.n→aK (gO S (ar.js p c) k j)≤2*M
section
variable {p:Prg} {l c:List Rat} {D0 f k:Nat}
theorem JC(hl:In l p)(qK:∀j,j<p.lp.n→fn c j∈l)(hb:iy D0 f p)(hk:yt p k):Fits p c (bits l k p.lp.m f) where
 one:=by have:=yu l k p.lp.m;unfold bits;omega
 pn j:=Jz (BE j) _ _ _
 js j:=Jz (Fp qK j) _ _ _
 tab i hi j:=by
  by_cases e:j=p.w
  ·subst e
   refine Nat.le_trans (yp (e:=f) hb.pos (Jy hb hi) hb.le (Nat.le_refl _)) ?_
   have:=yu l k p.lp.m;unfold bits;omega
  ·exact Jz (Jw hl hi e) _ _ _
 yw S h:=h.sz hl hb hk yv fun j _=>BE j
 oE S h:=h.sz hl hb hk JA fun j _=>Fp qK j
 P3:=PW (fun i hi=>rE p hi) rfl rfl ((Inv.base yv).bd hl hb hk yv fun j _=>BE j) hb.pos hb.le fun j _=>BE j
 P4 S h:=PW h.wf.lt h.rows.m h.rows.n (h.bd hl hb hk yv fun j _=>BE j) hb.pos hb.le fun j _=>Fp qK j
theorem P5{T:ao}(hl:In l p)(qK:∀j,j<p.lp.n→fn c j∈l)(hb:iy D0 f p)(hk:yt p k)(h:I2 p c T):
  ∃D,0<D∧D≤2^e7 l k p.lp.m∧ao.cQ (D*D0) (2^(e7 l k p.lp.m+f)) (-(T.c p.w))∧∀q,q∈aN (cP.vec p.lay.pF p.lay.mF T.pt) p.lp.n→ao.cQ (D*D0) (2^(e7 l k p.lp.m+f)) q:=by
 obtain⟨D,h1,h2,h3,h4⟩:=h.1.bd hl hb hk JA fun j _=>Fp qK j
 have hp:=yu l k p.lp.m
 have hn:=h.1.rows.n
 have up:∀z,2^(e7 l k p.lp.m-1+z)≤2^(e7 l k p.lp.m+z):=fun z=>Nat.pow_le_pow_right (by decide) (by omega)
 refine⟨D,h1,Nat.le_trans h2 (up 0),?_,fun q hq=> ?_⟩
 ·have h5:=h4 p.w (by omega)
  rw[←hn,ao.s5,ao.s5]at h5
  rw[←hn]
  exact(h5.mono (up f)).neg
 ·have P6:∀j,j<p.w→ao.cQ (D*D0) (2^(e7 l k p.lp.m-1+f)) (T.pt j):=fun j hj=>by
   by_cases hb:∃i,i<T.m∧T.B i=j
   ·obtain⟨i,hi,rfl⟩:=hb
    have h5:=h3 i hi p.w (by omega)
    rw[←hn,ao.s5,ao.s5]at h5
    rw[ao.Ir h.1.wf hi];exact h5
   ·rw[ao.Is (by omega) (fun i hi e=>absurd ⟨i,hi,e⟩ hb)]
    exact ao.vo _ _
  unfold aN at hq
  obtain⟨j,hj,rfl⟩:=List.mem_map.1 hq
  have hj:=List.mem_range.1 hj
  have hm:ao.cQ (D*D0) (2^(e7 l k p.lp.m-1+f)) (eS T.pt (p.lay.mF j)):=by
   rw[ym hj]
   by_cases hf:p.lp.free j=true
   ·rw[if_pos hf]
    have:=yi p hj
    unfold jJ at this
    rw[if_pos hf]at this
    have:=oZ p
    have:=jr p
    exact P6 _ (by omega)
   ·rw[if_neg hf];exact ao.vo _ _
  have h6:=(P6 _ (kE.pw j hj)).sub hm
  refine h6.mono ?_
  rw[show e7 l k p.lp.m+f=(e7 l k p.lp.m-1+f)+1 by omega,Nat.pow_succ];omega
end
end Go.ar
