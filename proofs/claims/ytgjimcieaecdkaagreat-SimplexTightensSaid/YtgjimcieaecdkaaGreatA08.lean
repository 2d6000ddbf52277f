/- Part 8 of the proof: Mz, Mz2. -/
import Derived.Test.YtgjimcieaecdkaaGreatA07
set_option linter.unusedVariables false
namespace Go.au
open Go.Proofs Num Lp
theorem Dz{D X:Nat}{q:Rat}(D':Nat)(h:al.dz D X q):al.dz (D*D') (X*D') q:=by
 obtain⟨z,h1,h2⟩:=h
 refine⟨z*D',?_,?_⟩
 ·rw[Rat.natCast_mul,Rat.intCast_mul,←h1]
  have:((D':Int):Rat)=(D':Rat):=rfl
  rw[this];grind
 ·rw[Int.natAbs_mul,Int.natAbs_natCast];exact Nat.mul_le_mul_right _ h2
theorem WD{D D' X Y:Nat}{q r:Rat}(h:al.dz D X q)(k:al.dz D' Y r):al.dz (D*D') (X*Y) (q*r):=by
 obtain⟨z,h1,h2⟩:=h
 obtain⟨y,k1,k2⟩:=k
 refine⟨z*y,?_,?_⟩
 ·rw[Rat.natCast_mul,Rat.intCast_mul,←h1,←k1];grind
 ·rw[Int.natAbs_mul];exact Nat.mul_le_mul h2 k2
theorem Hn{T:al}{f:Nat→Rat}{D D' X Y k j:Nat}(hB:∀i,i<T.m→T.B i<T.n)(hf:∀j,j<T.n→al.dz D X (f j))(hA:∀i,i<T.m→al.dz D' Y (T.A i j))(hk:k≤T.m)(hj:j≤T.n):
  al.dz (D*D') (X*D'+k*(X*Y)) (gH T f k j):=by
 unfold gH
 refine al.dz.sub ?_ (al.Uj k _ fun i hi=>WD (hf _ (hB i (by omega))) (hA i (by omega)))
 split
 ·exact al.CQ _ _
 ·exact Dz _ (hf j (by omega))
theorem WE(e:Nat):2^e<B^(e+1):=by
 have h1:2^(e+1)≤B^(e+1):=Nat.pow_le_pow_left (by decide) _
 have h2:2^e<2^(e+1):=Nat.pow_lt_pow_right (by decide) (by omega)
 omega
theorem zR{D X e:Nat}{q:Rat}(hD:0<D)(h:al.dz D X q)(h1:D≤2^e)(h2:X≤2^e):aC q≤e+1:=by
 have h3:=al.Ue hD h
 have h4:=WE e
 unfold aC
 rw[Nat.max_le,fW,fW]
 omega
theorem zS{D D0 n j e f:Nat}(hD:D≤2^e)(h0:D0≤2^f):D*al.iN n j D0 1≤2^(e+f)∧2^(e+al.iN n j f 0)≤2^(e+f):=by
 have h1:(1:Nat)≤2^f:=Nat.one_le_two_pow
 unfold al.iN
 split
 ·exact⟨by rw[Nat.pow_add];exact Nat.mul_le_mul hD h0,Nat.le_refl _⟩
 ·exact⟨by rw[Nat.pow_add];exact Nat.mul_le_mul hD h1,Nat.pow_le_pow_right (by decide) (by omega)⟩
theorem Ho{D D0 n j:Nat}(hD:0<D)(h0:0<D0):0<D*al.iN n j D0 1:=Nat.mul_pos hD (by unfold al.iN;split <;> omega)
theorem WG{D0 f e:Nat}{T:al}(h:al.Bd D0 f e T)(p0:0<D0)(h0:D0≤2^f):Sz (e+f+1) T:=by
 obtain⟨D,h1,h2,h3,h4⟩:=h
 exact⟨fun i hi j hj=>zR (Ho h1 p0) (h3 i hi j hj) (zS h2 h0).1 (zS (j:=j) (n:=T.n) h2 h0).2,fun j hj=>zR (Ho h1 p0) (h4 j hj) (zS h2 h0).1 (zS (j:=j) (n:=T.n) h2 h0).2⟩
def In(l:List Rat)(p:Prg):Prop:=∀i,i<p.lp.m→∀j,j<p.lp.n→p.lp.a i j∈l
structure zT(D0 f:Nat)(p:Prg):Prop where
 pos:0<D0
 le:D0≤2^f
 b:∀i,i<p.lp.m→al.dz D0 (2^f) (p.lp.b i)
theorem wJ{P:Rat→Prop}{f:Nat→Rat}{k:Nat}{q:Rat}(hf:∀j,P (f j))(hq:P q):∀j,P (dU f k q j):=fun j=>by
 unfold dU;split
 ·exact hq
 ·exact hf j
abbrev CM(l:List Rat)(q:Rat):Prop:=al.dz (al.ff l) (2^(2*al.dZ l)) q
section
variable {p:Prg} {l:List Rat}
theorem Nl{D X:Nat}{q:Rat}{s:Int}(h:al.dz D X q)(hs:s=1∨s = -1):al.dz D X (q*(s:Rat)):=by
 rcases hs with e | e
 ·rw[e,show q*((1:Int):Rat)=q by grind];exact h
 ·rw[e,show q*((-1:Int):Rat) = -q by grind];exact h.neg
theorem Nm:CM l 1:=al.Lx l 1 (by decide)
theorem Nn{s:Int}(hs:s=1∨s = -1):CM l (s:Rat):=al.Lx l s (by omega)
theorem Np{a:Nat→Rat}{s:Int}(hs:s=1∨s = -1)(k:Nat)(ha:∀j,j<k→CM l (a j))(L:TL):∀j,CM l (gQ L a (s:Rat) k j):=by
 induction k with
 | zero=>exact fun j=>al.CQ _ _
 | succ k ih=>
  have oM:=ih (fun j hj=>ha j (by omega))
  have h1:=Nl (ha k (by omega)) hs
  intro j
  rw[uC]
  split
  ·exact wJ (wJ oM h1) h1.neg j
  ·exact wJ oM h1 j
theorem Hp(h:In l p){i:Nat}(hi:i<p.lp.m){j:Nat}(hj:j≠p.w):CM l (p.dV.A i j):=by
 have hs:=wE (p.lp.b i) (p.lp.rel i)
 rw[wH,iz hj]
 refine wJ (fun j=> ?_) Nm j
 have h1:=Np (l:=l) (L:=p.lay) hs p.lp.n (fun j hj=>al.Gl (h i hi j hj))
 unfold oc
 split
 ·exact wJ h1 (Nn hs) j
 ·split
  ·exact wJ h1 (Nn hs).neg j
  ·exact h1 j
theorem Hq{D0 f:Nat}(h:zT D0 f p){i:Nat}(hi:i<p.lp.m):al.dz D0 (2^f) (p.dV.A i p.w):=by
 rw[wH,qB]
 exact Nl (h.b i hi) (wE (p.lp.b i) (p.lp.rel i))
def qC(T:al)(c0:Nat→Rat):al:={T with c:=gH T c0 T.m}
structure Inv(p:Prg)(c0:Nat→Rat)(S:al):Prop where
 wf:S.WF
 ej:S.iM
 rows:al.Rows p.dV.A p.lp.m p.w S
 off:cL.nX p.dV.A p.lp.m p.w c0 S.c
theorem WH{T:al}{c0:Nat→Rat}(hB:∀i,i<T.m→T.B i<T.n)(hu:∀i k,i<T.m→k<T.m→T.A k (T.B i)=if k=i then 1 else 0){i:Nat}(hi:i<T.m):gH T c0 T.m (T.B i)=0:=by
 unfold gH
 have h1:=hB i hi
 rw[if_neg (by omega),nU hi _ (fun k hk a4=>by rw[hu i k hi hk,if_neg a4];grind),hu i i hi hi,if_pos rfl]
 grind
theorem Inv.Nq{S:al}{c0:Nat→Rat}(h0:c0 p.w=0)(hW:S.WF)(hF:S.iM)(hR:al.Rows p.dV.A p.lp.m p.w S):Inv p c0 (qC S c0):=by
 have cH:al.Rows p.dV.A p.lp.m p.w (qC S c0):=⟨hR.m,hR.n,hR.mul,hR.jY⟩
 refine⟨⟨hW.lt,hW.unit,fun i hi=>WH hW.lt hW.unit hi⟩,hF,cH,hR.off c0 (fun i=>c0 (S.B i)) fun j hj=> ?_⟩
 show gH S c0 S.m j=_
 unfold gH
 rw[hR.m,hR.n]
 by_cases e:j=p.w
 ·rw[if_pos e,e,h0]
 ·rw[if_neg e]
theorem Inv.step{S:al}{c0:Nat→Rat}(h:Inv p c0 S){u r s:Nat}(hu:u≤S.n)(hb:S.oZ u r s):Inv p c0 (S.bM r s):=by
 have hp:S.A r s≠0:=by have:=hb.pos;grind
 have hs:=hb.su
 have hr:=hb.rm
 exact⟨al.vZ h.wf hr (by omega) hp,al.FT h.ej hb,h.rows.bM (by rw[←h.rows.m];exact hr) hp,h.rows.K9 h.off (by rw[←h.rows.m];exact hr)⟩
theorem Inv.same{S T:al}{c0:Nat→Rat}(h:Inv p c0 S)(h':Inv p c0 T):al.gp S T:=
 ⟨by rw[h.rows.m,h'.rows.m],by rw[h.rows.n,h'.rows.n],fun x=>by rw[h.rows.jY,h'.rows.jY],fun x hx=>by
  rw[h.rows.cost h.off hx,h'.rows.cost h'.off ((h'.rows.jY x).2 ((h.rows.jY x).1 hx))]⟩
theorem Nr(m:Nat):m+1≤2^m:=by
 induction m with
 | zero=>decide
 | succ m ih=>rw[Nat.pow_succ];omega
theorem WI{D0 f:Nat}(h:In l p)(hb:zT D0 f p){c0:Nat→Rat}(hc:∀j,j<p.w→CM l (c0 j)):al.Bd D0 f (4*al.dZ l+p.lp.m) (qC p.dV c0):=by
 have hD:=al.CP l
 have Hr:=al.wg l
 have hm:=Nr p.lp.m
 generalize DA:2^(2*al.dZ l)=X at *
 have hX:1≤X:=by rw[←DA];exact Nat.one_le_two_pow
 have DB:al.ff l≤X:=by rw[←DA];exact Nat.le_trans Hr (Nat.pow_le_pow_right (by decide) (by omega))
 have p2:2^(4*al.dZ l+p.lp.m)=X*X*2^p.lp.m:=by rw[←DA,←Nat.pow_add,←Nat.pow_add];congr 1;omega
 have Ns:al.ff l*al.ff l≤X*X:=Nat.mul_le_mul DB DB
 have WJ:X*al.ff l≤X*X:=Nat.mul_le_mul_left _ DB
 have hM:∀x,x≤X*X→x≤2^(4*al.dZ l+p.lp.m):=fun x hx=>by
  rw[p2];exact Nat.le_trans hx (Nat.le_mul_of_pos_right _ (by omega))
 have qZ:∀{q},CM l q→al.dz (al.ff l) X q:=fun{q} h=>by rw[←DA];exact h
 have k9:(qC p.dV c0).n=p.w:=rfl
 refine⟨al.ff l*al.ff l,Nat.mul_pos hD hD,hM _ Ns,fun i hi j hj=> ?_,fun j hj=> ?_⟩
 ·by_cases e:j=p.w
  ·subst e
   rw[←k9,al.CL,al.CL,Nat.mul_comm,k9]
   refine(Dz (al.ff l*al.ff l) (Hq hb hi)).mono ?_
   rw[Nat.pow_add,Nat.mul_comm]
   exact Nat.mul_le_mul_right _ (hM _ Ns)
  ·rw[al.we (by rw[k9]at hj⊢;omega),al.we (by rw[k9]at hj⊢;omega),Nat.mul_one]
   exact(Dz _ (qZ (Hp h hi e))).mono (hM _ WJ)
 ·by_cases e:j=p.w
  ·subst e
   rw[←k9,al.CL,al.CL,k9]
   have h1:=Dz (al.ff l) (Hn (T:=p.dV) (k:=p.lp.m) (j:=p.w) (fun i hi=>qA p hi) (fun j hj=>qZ (hc j hj)) (fun i hi=>Hq hb hi) (Nat.le_refl _) hj)
   rw[show al.ff l*al.ff l*D0=al.ff l*D0*al.ff l by rw[Nat.mul_assoc,Nat.mul_assoc,Nat.mul_comm D0]]
   refine h1.mono ?_
   have h2:X*D0≤X*2^f:=Nat.mul_le_mul_left _ hb.le
   have h3:X*D0+p.lp.m*(X*2^f)≤(p.lp.m+1)*(X*2^f):=by rw[Nat.succ_mul p.lp.m];omega
   refine Nat.le_trans (Nat.mul_le_mul h3 DB) ?_
   rw[Nat.pow_add,p2]
   have e4:(p.lp.m+1)*(X*2^f)*X=X*X*(p.lp.m+1)*2^f:=by
    rw[Nat.mul_comm _ X,Nat.mul_left_comm (p.lp.m+1) X,←Nat.mul_assoc,Nat.mul_assoc (X*X)]
   rw[e4]
   exact Nat.mul_le_mul_right _ (Nat.mul_le_mul_left _ hm)
  ·rw[al.we (by rw[k9]at hj⊢;omega),al.we (by rw[k9]at hj⊢;omega),Nat.mul_one]
   refine(Hn (T:=p.dV) (k:=p.lp.m) (fun i hi=>qA p hi) (fun j hj=>qZ (hc j hj)) (fun i hi=>qZ (Hp h hi e)) (Nat.le_refl _) hj).mono ?_
   rw[Nat.add_zero,p2]
   refine Nat.le_trans (m:=(p.lp.m+1)*(X*X)) ?_ (by rw[Nat.mul_comm];exact Nat.mul_le_mul_left _ hm)
   rw[Nat.succ_mul p.lp.m];omega
def og(l:List Rat)(k m:Nat):Nat:=2^k*(4*al.dZ l+m+1)
def bits(l:List Rat)(k m f:Nat):Nat:=og l k m+f
theorem Inv.base{c0:Nat→Rat}(h0:c0 p.w=0):Inv p c0 (qC p.dV c0):=Inv.Nq h0 WA WB WC
def Hs(p:Prg)(k:Nat):Prop:=p.lp.m≤k∨p.w≤p.lp.m+k
theorem Inv.bd{D0 f k:Nat}{S:al}{c0:Nat→Rat}(h:Inv p c0 S)(hl:In l p)(hb:zT D0 f p)(hk:Hs p k)(h0:c0 p.w=0)(hc:∀j,j<p.w→CM l (c0 j)):al.Bd D0 f (og l k p.lp.m-1) S:=by
 refine al.Ub (Inv.base h0).wf h.wf ((Inv.base h0).same h) (WI hl hb hc) ?_
 rcases hk with hk | hk
 ·exact Nat.le_trans (al.Uc _ _) (by rw[h.rows.m];exact hk)
 ·have h1:=al.Ud (Inv.base h0).wf h.wf ((Inv.base h0).same h)
  have h2:(qC p.dV c0).n=p.w:=rfl
  have h3:(qC p.dV c0).m=p.lp.m:=rfl
  omega
theorem zU(l:List Rat)(k m:Nat):2*al.dZ l+m+1≤og l k m:=by
 unfold og
 have h1:1≤2^k:=Nat.one_le_two_pow
 have h2:1*(4*al.dZ l+m+1)≤2^k*(4*al.dZ l+m+1):=Nat.mul_le_mul_right _ h1
 omega
theorem Inv.sz{D0 f k:Nat}{S:al}{c0:Nat→Rat}(h:Inv p c0 S)(hl:In l p)(hb:zT D0 f p)(hk:Hs p k)(h0:c0 p.w=0)(hc:∀j,j<p.w→CM l (c0 j)):Sz (bits l k p.lp.m f) S:=by
 have h1:=WG (h.bd hl hb hk h0 hc) hb.pos hb.le
 have h2:=zU l k p.lp.m
 rwa [show og l k p.lp.m-1+f+1=bits l k p.lp.m f by unfold bits;omega]at h1
theorem Ht{q:Rat}(h:CM l q)(k m f:Nat):aC q≤bits l k m f:=by
 have h2:=zU l k m
 refine Nat.le_trans (zR (e:=2*al.dZ l) (al.CP l) h ?_ (Nat.le_refl _)) (by unfold bits;omega)
 exact Nat.le_trans (al.wg l) (Nat.pow_le_pow_right (by decide) (by omega))
theorem Nu{D0 f k:Nat}{S:al}{c1:Nat→Rat}(hB:∀i,i<S.m→S.B i<S.n)(hm:S.m=p.lp.m)(hn:S.n=p.w)(hb:al.Bd D0 f (og l k p.lp.m-1) S)(p0:0<D0)(h0:D0≤2^f)(hc:∀j,j<p.w→CM l (c1 j)):∀k',k'≤S.m→∀j,j≤S.n→aC (gH S c1 k' j)≤2*bits l k p.lp.m f:=by
 intro k' hk j hj
 obtain⟨D,h1,h2,h3,_⟩:=hb
 have hbp:=zU l k p.lp.m
 have hD:=al.CP l
 have Hr:=al.wg l
 obtain⟨q1,q2⟩:=zS (j:=j) (n:=S.n) h2 h0
 have key:=Hn hB (fun j hj=>hc j (by omega)) (fun i hi=>h3 i hi j hj) hk hj
 refine Nat.le_trans (zR (e:=2*al.dZ l+(og l k p.lp.m-1+f)+p.lp.m) (Nat.mul_pos hD (Ho h1 p0)) key ?_ ?_) (by unfold bits;omega)
 ·refine Nat.le_trans (Nat.mul_le_mul Hr q1) ?_
  rw[←Nat.pow_add]
  exact Nat.pow_le_pow_right (by decide) (by omega)
 ·rw[Nat.pow_add _ _ p.lp.m,Nat.pow_add 2 (2*al.dZ l) (og l k p.lp.m-1+f)]
  generalize 2^(og l k p.lp.m-1+f)=Z at *
  have g1:2^(2*al.dZ l)*(D*al.iN S.n j D0 1)≤2^(2*al.dZ l)*Z:=Nat.mul_le_mul_left _ q1
  have g3:k'*(2^(2*al.dZ l)*2^(og l k p.lp.m-1+al.iN S.n j f 0))≤k'*(2^(2*al.dZ l)*Z):=Nat.mul_le_mul_left _ (Nat.mul_le_mul_left _ q2)
  have g2:=Nr p.lp.m
  refine Nat.le_trans (m:=(k'+1)*(2^(2*al.dZ l)*Z)) (by rw[Nat.succ_mul k',Nat.add_comm];exact Nat.add_le_add g3 g1) ?_
  rw[Nat.mul_comm];exact Nat.mul_le_mul_left _ (by omega)
end
end Go.au
namespace Go.au
open Go.Proofs Num Lp
section
variable {p:LP}
theorem DC{n:Nat}{a x x':Nat→Rat}(h:∀j,j<n→x j=x' j):bL n a x=bL n a x':=Tu (fun _ _=>rfl) h
theorem ft.congr{t:Rat}{x x':Nat→Rat}(h:∀j,j<p.n→x j=x' j)(hm:p.ft t x):p.ft t x':=
 ⟨fun j hj hf=>by rw[←h j hj];exact hm.1 j hj hf,fun i hi=>by rw[←DC h];exact hm.2 i hi⟩
theorem Signed.congr{y y':Nat→Rat}(h:∀i,i<p.m→y i=y' i)(hm:p.Signed y):p.Signed y':=fun i hi=>by rw[←h i hi];exact hm i hi
theorem Nv{y y':Nat→Rat}(h:∀i,i<p.m→y i=y' i)(j:Nat):p.dP y j=p.dP y' j:=dY fun i hi=>by rw[h i hi]
theorem Nw{y y':Nat→Rat}(h:∀i,i<p.m→y i=y' i):p.kJ y=p.kJ y':=dY fun i hi=>by rw[h i hi]
theorem qf.congr{c x x' y y':Nat→Rat}(hx:∀j,j<p.n→x j=x' j)(hy:∀i,i<p.m→y i=y' i)(h:p.qf c x y):p.qf c x' y':=
 ⟨ft.congr hx h.ej,Signed.congr hy h.signed,fun j hj=>by rw[←Nv hy];exact h.eZ j hj,by rw[←Nw hy,←DC hx];exact h.eq⟩
theorem rE.congr{y y':Nat→Rat}(hy:∀i,i<p.m→y i=y' i)(h:p.rE y):p.rE y':=
 ⟨Signed.congr hy h.signed,fun j hj=>by rw[←Nv hy];exact h.eZ j hj,by rw[←Nw hy];exact h.pos⟩
theorem rF.congr{c x x' r r':Nat→Rat}(hx:∀j,j<p.n→x j=x' j)(hr:∀j,j<p.n→r j=r' j)(h:p.rF c x r):p.rF c x' r':=
 ⟨ft.congr hx h.ej,ft.congr hr h.ik,by rw[←DC hr];exact h.neg⟩
end
section
variable {p:Prg} {l c:List Rat} {T:al}
abbrev pn(p:Prg):Nat→Rat:=al.gO p.u p.w
abbrev iQ(p:Prg)(c:List Rat):Nat→Rat:=gQ p.lay (fn c) 1 p.lp.n
theorem wK:pn p p.w=0:=al.Lh _ _
theorem zV(j:Nat):CM l (pn p j):=by
 show CM l (al.gO _ _ _)
 unfold al.gO;split
 ·exact Nm
 ·exact al.CQ _ _
theorem DD:al.yu p.lp p.w p.lay.pF p.lay.mF p.oe (fn c) (iQ p c) where
 pl j hj:=by rw[uJ p hj];show gQ p.lay (fn c) 1 p.lp.n _=_;rw[(Dw (Nat.le_refl _) hj).1];grind
 mi j hj k hk:=by
  rw[zQ hj]at hk
  by_cases hf:p.lp.free j=true
  ·rw[if_pos hf]at hk;cases hk
   show gQ p.lay (fn c) 1 p.lp.n _=_
   rw[(Dw (Nat.le_refl _) hj).2 hf];grind
  ·rw[if_neg hf]at hk;cases hk
 sl i hi k hk:=by
  unfold Prg.oe at hk
  split at hk
  ·cases hk
  ·cases hk
   exact Dv (Nat.le_refl _) (qy _ _ _).2
 last:=Dv (Nat.le_refl _) (Nat.le_trans (pC p) (jo p))
theorem Nx:iQ p c p.w=0:=(DD (p:=p) (c:=c)).last
theorem Hu(hc:∀j,j<p.lp.n→fn c j∈l)(j:Nat):CM l (iQ p c j):=by
 have:=Np (l:=l) (a:=fn c) (s:=1) (.inl rfl) p.lp.n (fun j hj=>al.Gl (hc j hj)) p.lay j
 exact this
theorem WK(bx:p.Ok)(h:Inv p (pn p) T)(hn:∀j,j<p.u→0≤T.c j)(fO:T.c p.w<0):CC p (aH (fun i=>p.lay.sF i*(pn p (p.lay.uF i)-T.c (p.lay.uF i))) p.lp.m):=
 ⟨bx,bV _ _,rE.congr (fun i hi=>(wh hi).symm) (cL.TD (Dy bx) h.off (fun j hj=>al.TI hj) wK hn fO)⟩
theorem WL(h:Inv p (pn p) T)(hv:¬T.c p.w<0):al.Clean p.u 0 T:=
 al.Clean.start (al.TM h.wf h.ej h.rows h.off (by grind)).2
theorem WM(h:Inv p (pn p) T){s:Nat}(hs:s<p.u)(fO:T.c s<0)(hA:∀i,i<T.m→T.A i s≤0):False:=
 al.TJ h.wf h.rows h.off (Nat.lt_of_lt_of_le hs (jo p)) fO hA
def Jx(p:Prg)(k:Nat)(S:al):Prop:=Inv p (pn p) S∧al.Clean p.u k S
theorem Jx.skip{k:Nat}(h:Jx p k T)(hk:T.B k<p.u∨∀j,j<p.u→T.A k j=0):Jx p (k+1) T:=⟨h.1,h.2.skip hk⟩
theorem Jx.bM{k s:Nat}(h:Jx p k T)(hk:k<T.m)(hu:p.u≤T.B k)(hs:s<p.u)(hp:T.A k s≠0):Jx p (k+1) (T.bM k s):=by
 have lA:=jo p
 have hm:k<p.lp.m:=by rw[←h.1.rows.m];exact hk
 exact⟨⟨al.vZ h.1.wf hk (by rw[h.1.rows.n];omega) hp,h.2.ej h.1.ej hk hu s,h.1.rows.bM hm hp,h.1.rows.K9 h.1.off hm⟩,h.2.TN hk hu hs⟩
def I2(p:Prg)(c:List Rat)(S:al):Prop:=Inv p (iQ p c) S∧al.Clean p.u S.m S
theorem I2.start(h:Jx p p.lp.m T):I2 p c (qC T (iQ p c)):=by
 have hc:=h.2
 rw[←h.1.rows.m]at hc
 exact⟨Inv.Nq Nx h.1.wf h.1.ej h.1.rows,⟨hc.zero,hc.row⟩⟩
theorem I2.step{r s:Nat}(h:I2 p c T)(hb:T.oZ p.u r s):I2 p c (T.bM r s):=
 ⟨h.1.step (by rw[h.1.rows.n];exact jo p) hb,h.2.TO hb⟩
theorem WN(bx:p.Ok)(dJ:c.length=p.free.length)(h:I2 p c T)(hn:∀j,j<p.u→0≤T.c j):
  yw p c (aH (cL.vec p.lay.pF p.lay.mF T.pt) p.lp.n) (aH (fun i=>p.lay.sF i*(iQ p c (p.lay.uF i)-T.c (p.lay.uF i))) p.lp.m)∧-(T.c p.w)=bL p.free.length (fn c) (fn (aH (cL.vec p.lay.pF p.lay.mF T.pt) p.lp.n)):=by
 have h1:=al.TP (Dy bx) h.1.wf h.1.ej h.1.rows h.2 DD h.1.off hn
 have h2:=qf.congr (x':=fn (aH (cL.vec p.lay.pF p.lay.mF T.pt) p.lp.n)) (y':=fn (aH (fun i=>p.lay.sF i*(iQ p c (p.lay.uF i)-T.c (p.lay.uF i))) p.lp.m)) (fun j hj=>(wh hj).symm) (fun i hi=>(wh hi).symm) h1
 refine⟨⟨⟨bx,bV _ _,h2.ej⟩,dJ,bV _ _,h2⟩,?_⟩
 rw[←al.Lm (Dy bx) h.1.wf h.1.rows h.2 DD h.1.off]
 exact DC (n:=p.lp.n) fun j hj=>(wh hj).symm
theorem WO(bx:p.Ok)(dJ:c.length=p.free.length)(h:I2 p c T){s:Nat}(hs:s<p.u)(fO:T.c s<0)(hA:∀i,i<T.m→T.A i s≤0):
  CD p c (aH (cL.vec p.lay.pF p.lay.mF T.pt) p.lp.n) (aH (cL.vec p.lay.pF p.lay.mF (T.dir s)) p.lp.n):=by
 have h1:=al.TQ (Dy bx) h.1.wf h.1.ej h.1.rows h.2 DD h.1.off hs fO hA
 have h2:=rF.congr (x':=fn (aH (cL.vec p.lay.pF p.lay.mF T.pt) p.lp.n)) (r':=fn (aH (cL.vec p.lay.pF p.lay.mF (T.dir s)) p.lp.n)) (fun j hj=>(wh hj).symm) (fun j hj=>(wh hj).symm) h1
 exact⟨⟨bx,bV _ _,h2.ej⟩,dJ,bV _ _,h2⟩
theorem Hv{N:Nat}(hW:T.WF)(hz:Sz N T)(h0:1≤N){j:Nat}(hj:j<T.n):aC (T.pt j)≤N:=by
 by_cases h:∃i,i<T.m∧T.B i=j
 ·obtain⟨i,hi,rfl⟩:=h
  rw[al.Lc hW hi];exact hz.A i hi _ (Nat.le_refl _)
 ·rw[al.Le hj (fun i hi e=>absurd ⟨i,hi,e⟩ h)]
  exact Nat.le_trans (by decide) h0
theorem Ny{N:Nat}(hW:T.WF)(hz:Sz N T)(h0:1≤N){s j:Nat}(hs:s≤T.n)(m9:∀i,i<T.m→T.B i≠s):aC (T.dir s j)≤N:=by
 unfold al.dir
 by_cases e:j=s
 ·subst e
  rw[if_pos rfl,kI (fun i hi=>by rw[if_neg (m9 i hi)]),show (1:Rat)-0=1 by grind]
  exact Nat.le_trans (by decide) h0
 ·rw[if_neg e]
  by_cases h:∃i,i<T.m∧T.B i=j
  ·obtain⟨i,hi,rfl⟩:=h
   rw[nU hi _ (fun k hk a4=>by rw[if_neg (fun e'=>a4 (hW.inj hk hi e'))]),if_pos rfl,show (0:Rat)-T.A i s = -(T.A i s) by grind,vT]
   exact hz.A i hi s hs
  ·rw[kI (fun i hi=>by rw[if_neg (fun e'=>h ⟨i,hi,e'⟩)]),show (0:Rat)-0=0 by grind]
   exact Nat.le_trans (by decide) h0
theorem Nz(hW:T.WF){s:Nat}(fO:T.c s<0):∀i,i<T.m→T.B i≠s:=fun i hi e=>by
 have:=hW.zero i hi
 rw[e]at this;grind
end
structure Fits(p:Prg)(c:List Rat)(M:Nat):Prop where
 one:1≤M
 pn:∀j,aC (pn p j)≤M
 iQ:∀j,aC (iQ p c j)≤M
 tab:∀i,i<p.lp.m→∀j,aC (p.dV.A i j)≤M
 wL:∀S,Inv p (au.pn p) S→Sz M S
 nI:∀S,Inv p (au.iQ p c) S→Sz M S
 NA:∀k,k≤p.lp.m→∀j,j≤p.w→aC (gH (qC p.dV (au.pn p)) (au.pn p) k j)≤2*M
 NB:∀S,Inv p (au.pn p) S→∀k,k≤S.m→∀j,j≤S.n→aC (gH S (au.iQ p c) k j)≤2*M
section
variable {p:Prg} {l c:List Rat} {D0 f k:Nat}
theorem WQ(hl:In l p)(pR:∀j,j<p.lp.n→fn c j∈l)(hb:zT D0 f p)(hk:Hs p k):Fits p c (bits l k p.lp.m f) where
 one:=by have:=zU l k p.lp.m;unfold bits;omega
 pn j:=Ht (zV j) _ _ _
 iQ j:=Ht (Hu pR j) _ _ _
 tab i hi j:=by
  by_cases e:j=p.w
  ·subst e
   refine Nat.le_trans (zR (e:=f) hb.pos (Hq hb hi) hb.le (Nat.le_refl _)) ?_
   have:=zU l k p.lp.m;unfold bits;omega
  ·exact Ht (Hp hl hi e) _ _ _
 wL S h:=h.sz hl hb hk wK fun j _=>zV j
 nI S h:=h.sz hl hb hk Nx fun j _=>Hu pR j
 NA:=Nu (fun i hi=>qA p hi) rfl rfl ((Inv.base wK).bd hl hb hk wK fun j _=>zV j) hb.pos hb.le fun j _=>zV j
 NB S h:=Nu h.wf.lt h.rows.m h.rows.n (h.bd hl hb hk wK fun j _=>zV j) hb.pos hb.le fun j _=>Hu pR j
theorem NC(hl:In l p)(pR:∀j,j<p.lp.n→fn c j∈l)(hb:∀i,i<p.lp.m→p.lp.b i∈l):Fits p c (bits l p.lp.m p.lp.m (2*al.dZ l)):=
 WQ (D0:=al.ff l) hl pR ⟨al.CP l,Nat.le_trans (al.wg l) (Nat.pow_le_pow_right (by decide) (by omega)),fun i hi=>al.Gl (hb i hi)⟩ (.inl (Nat.le_refl _))
end
end Go.au
