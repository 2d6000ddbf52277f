/- Walks over package lexico, part 5: Least. -/
import Derived.Test.YtgjimcieaecdkaaGreatA10
import Derived.Test.YtgjimcieaecdkaaGreatLx4
set_option linter.unusedVariables false
namespace Go.ar
open Go.Proofs Num Lp
def oe(k:Nat):List Rat:=(List.replicate k 0).set 0 1
theorem Ln(k:Nat):(oe k).length=k:=by simp[oe]
theorem Gk{k:Nat}(hk:0<k)(j:Nat):fn (oe k) j=if j=0 then 1 else 0:=by
 unfold fn oe
 rw[List.getD,List.getElem?_set]
 by_cases h:0=j
 ·subst h;simp[hk]
 ·rw[if_neg h,if_neg (fun e=>h e.symm),List.getElem?_replicate];split <;> rfl
theorem Lo{k:Nat}(hk:0<k)(z:Nat→Rat):a5 k (fn (oe k)) z=z 0:=by
 unfold a5
 rw[nM hk _ (fun j _ hj=>by rw[Gk hk,if_neg hj];grind),Gk hk,if_pos rfl];grind
structure Gb(p:Prg)(l:List Rat)(E f0:Nat):Prop where
 wj:In l p
 one:1∈l
 zero:0∈l
 bin:∃D,iy D f0 p
 bit:e7 l p.rows.length p.rows.length≤E
 Gg:f0+(p.free.length+1)*(E+2*ao.cC l+1)≤99999998
def acn(p:Prg)(H:Heap)(v:Value)(H':Heap):Prop:=Heap.le H H'∧∃A k c e,v = .tuple #[.slice A k c,.int .i64 e]∧
 ((¬p.Ok∧e=1∧A=none∧k=0∧c=0)∨(p.Ok∧(∃j:Nat,p.free[j]? = some true)∧e=7∧A=none∧k=0∧c=0)∨(p.Ok∧(¬∃j:Nat,p.free[j]? = some true)∧p.lp.zZ∧e=17∧A=none∧k=0∧c=0)∨
  (p.Ok∧(¬∃j:Nat,p.free[j]? = some true)∧e=0∧∃y,pd p y∧aH (bJ KX) 3 H' (.slice A k c) y))
structure S7 where
 a:Value
 b:Value
 c:Value
 d:Value
 e:Value
 f:Value
 g:Value
structure aco(p:Prg)(l:List Rat)(E f0:Nat)(H H':Heap)(w:Value×Value×Value×Value)(ys:List Value)(a:Prg×List Rat×List Rat):Prop where
 Le:dL fy 29 3 H H' w.1 a.2.1 ys
 prog:dE KX (rem H' (aB w.1)) (.agg #[w.2.1,w.2.2.1]) a.1
 rest:aH (bJ KX) 3 (rem H' (aB w.1)) w.2.2.2 a.2.2
 ok:a.1.Ok
 free:¬∃j:Nat,a.1.free[j]? = some true
 meets:a.1.lp.cO 1 (fn a.2.2)
 len:a.2.2.length=a.1.free.length
 chain:∀y,pd a.1 y→pd p (a.2.1++y)
 mN:a.2.1.length+a.1.free.length=p.free.length
 rows:a.1.rows.length=p.rows.length
 wj:In l a.1
 bin:∃D,iy D (f0+a.2.1.length*(E+2*ao.cC l+1)) a.1
 sz:∀q,q∈a.2.1→aK q≤KX
theorem Gl{p:Prg}(h:¬∃j:Nat,p.free[j]? = some true)(j:Nat):p.lp.free j=false:=by
 show p.free.getD j false=false
 rw[List.getD]
 cases hj:p.free[j]? with
 | none=>rfl
 | some b=>
  cases b with
  | false=>rfl
  | true=>exact absurd ⟨j,hj⟩ h
theorem acp{p:Prg}{v:Rat}(h:¬∃j:Nat,p.free[j]? = some true):¬∃j:Nat,(eT p v).free[j]? = some true:=fun⟨j,hj⟩=>by
 have hj:(p.free.drop 1)[j]? = some true:=hj
 rw[List.getElem?_drop]at hj
 exact h ⟨_,hj⟩
structure Lq(D E f:Nat)(q:Prg)(x:List Rat):Prop where
 meets:q.lp.cO 1 (fn x)
 len:x.length=q.free.length
 min:∀z,q.lp.cO 1 z→fn x 0≤z 0
 com:∃D1,0<D1∧D1≤2^E∧ao.cQ (D1*D) (2^(E+f)) (fn x 0)
theorem acq{D E f:Nat}{q:Prg}{x:List Rat}(hn:0<q.free.length)(hf:¬∃j:Nat,q.free[j]? = some true)(h:q.lp.cO 1 (fn x))(hl:x.length=q.free.length)(h0:fn x 0=0):Lq D E f q x:=
 ⟨h,hl,fun z hz=>by rw[h0];exact hz.1 0 hn (Gl hf 0),1,by omega,Nat.one_le_two_pow,by rw[h0];exact ao.vo _ _⟩
theorem acr{D E f k:Nat}{q:Prg}{l:List Rat}{S:mL}(hn:0<q.free.length)(hl:In l q)(h1:1∈l)(h0:0∈l)(hb:iy D f q)(hk:yt q k)(hE:e7 l k q.lp.m≤E)(hc:nO q (oe q.free.length) S)(hs:S.status=1)(hL:FL q (oe q.free.length) S):Lq D E f q S.x:=by
 obtain⟨_,k2,k3⟩:=hc.Ek hs
 have acs:=k2.cert.Im k2.cT.ok.valid
 refine⟨k2.cT.meets,k2.cT.len,fun z hz=> ?_,?_⟩
 ·have h9:=acs.2 z hz
  have e1:a5 q.lp.n (fn (oe q.free.length)) z=z 0:=Lo hn z
  have e2:a5 q.lp.n (fn (oe q.free.length)) (fn S.x)=fn S.x 0:=Lo hn _
  rwa [e1,e2]at h9
 ·obtain⟨T,hT,_,e2⟩:=hL hs
  obtain⟨D1,g1,g2,_,g4⟩:=P5 hl (fun j _=>by rw[Gk hn];split;exact h1;exact h0) hb hk hT
  refine⟨D1,g1,Nat.le_trans g2 (Nat.pow_le_pow_right (by decide) hE),?_⟩
  have hx:fn S.x 0∈S.x:=KE (by rw[k2.cT.len];exact hn)
  rw[e2]at hx
  have h9:=(g4 _ hx).mono (Nat.pow_le_pow_right (n:=2) (by decide) (show e7 l k q.lp.m+f≤E+f by omega))
  rwa [←e2]at h9
theorem acu{q:Prg}{S:mL}{x:Nat→Rat}(hn:0<q.free.length)(hf:¬∃j:Nat,q.free[j]? = some true)(hx:q.lp.cO 1 x)(hc:nO q (oe q.free.length) S):S.status=1:=by
 rcases hc.Ej with ⟨h,_⟩ | ⟨_,h,_⟩ | ⟨_,h,_⟩
 ·exact h
 ·exact absurd hx (h x)
 ·obtain⟨z,hz,a7⟩:=h.2 0
  have e1:a5 q.lp.n (fn (oe q.free.length)) z=z 0:=Lo hn z
  rw[e1]at a7
  have:=hz.1 0 hn (Gl hf 0)
  grind
theorem R0{D f:Nat}{q:Rat}(h1:0<D)(h2:D≤2^f)(h:ao.cQ D (2^f) q):aK q≤f+1:=yp h1 h h2 (Nat.le_refl _)
theorem F6{H:Heap}{v:Value}{p:Prg}{l:List Rat}{N E f0:Nat}(hp:dE N H v p)(hN:N≤KX)(bV:p.Ok→Gb p l E f0):
  Fn Tryz.prog 12 #[v] H (acn p H):=by
 obtain⟨fv,l7,rfl,eA,fa⟩:=id hp
 obtain⟨Af,cf,xf,rfl,kF,kG⟩:=eA.one
 obtain⟨Ar,cr,xr,rfl,iH,fQ,fA⟩:=id fa
 have RO:N≤200000000:=hN;refine aW (args:=[_]) Tryz.func12 rfl rfl Tryz.ntmps12 rfl rfl fun w0=> ?_;refine aj [0] rfl ?_;refine af (bY rfl rfl (ab 2 rfl (ae [1] ?_)));refine aq (af (ab 1 rfl (au rfl rfl (Cd hp) ?_)));rintro _ H1 ⟨e1,b1,rfl,dZ⟩;rw[e1];refine ab 1 rfl (ae [1,11] ?_);refine az rfl (fun hb=> ?_) (fun hb=> ?_)
 ·
  have wc:b1=false:=by simpa using hb
  subst wc;refine af (ab 2 rfl (ae [2,3] ?_));refine aw ⟨.inr rfl,_,.tmp rfl (.tmp rfl (.nil)),?_⟩;exact⟨.refl _,_,_,_,_,rfl,.inl ⟨fun h=>(by have h9:=dZ.2 h;cases h9),rfl,rfl,rfl,rfl⟩⟩
 ·
  have sW:b1=true:=by simpa using hb
  have a8:=dZ.1 sW;have ep:=a8.gu;have rH:=a8.rows;have hz:=bV a8;have Lg:=hz.Gg;have acv:=hz.bit;refine ax (aj [1] rfl ?_);refine aq (af (ab 2 rfl (au rfl rfl (ab1 eA (by omega)) ?_)));rintro _ H2 ⟨e2,b2,rfl,bU⟩;rw[e2];refine ae [1,14] ?_;refine az rfl (fun hb=> ?_) (fun hb=> ?_)
  ·
   have La:b2=true:=by simpa using hb
   refine af (ab 2 rfl (ae [2,3] ?_));refine aw ⟨.inr rfl,_,.tmp rfl (.tmp rfl (.nil)),?_⟩;exact⟨.refl _,_,_,_,_,rfl,.inr (.inl ⟨a8,bU.1 La,rfl,rfl,rfl,rfl⟩)⟩
  ·
   have acw:b2=false:=by simpa using hb
   have ib:¬∃j:Nat,p.free[j]? = some true:=fun h=>by have h9:=bU.2 h;rw[acw]at h9;cases h9
   obtain⟨D0,wh⟩:=hz.bin;have sq:Fits p (List.replicate p.free.length 0) (bits l p.rows.length p.lp.m f0):=JC hz.wj (fun j _=>by rw[Ld];exact hz.zero) wh (.inl (Nat.le_refl _));have hEE:1*(E+2*ao.cC l+1)≤(p.free.length+1)*(E+2*ao.cC l+1):=Nat.mul_le_mul_right _ (by omega)
   have Lk:bits l p.rows.length p.lp.m f0≤99999998:=by
    have h9:e7 l p.rows.length p.lp.m≤E:=acv
    unfold bits;omega
   refine ax (aj [1] rfl ?_);refine cg .bR [0,1,2,3,4,5,6,7,8,9,10,11] follows (by kernel_rfl) ?_;refine ab 4 rfl (iF Tryz.underlying26 cZ rfl rfl rfl (by omega) (by omega) (by omega) (by omega) ?_);intro g hg;have hle:=Heap.a0 ⟨cA [.bool false,.slice none 0 0,.slice none 0 0] ((p.free.length:Int).toNat*3),(p.free.length:Int).toNat*3,29,true⟩ hg;refine aT rfl rfl (Gf (N:=N) (hp.le hle) RN (by omega) a8 (by rw[List.length_replicate]) sq Lk) (fun _ _ h=>by first | exact h.le | exact h.1) ?_;rintro _ H3 ⟨fu,S,f3,B31,m31,e31,B32,m32,e32,R1,R2,B3d,e3d,B3r,e3r,rfl,jN,Cz,nN,tK,wi,xW⟩;have Lr:=hle.trans fu;refine ab 3 rfl (bD pI rfl ?_);obtain⟨ti,ak,al⟩:=lL;refine aM (.inl ⟨rfl,rfl⟩) rfl rfl rfl ak al rfl rfl rfl (ab 1 rfl (ae [1,4,5] ?_));refine aq (af (ab 2 rfl (ae [1,4,5,25] ?_)));refine dG rfl (ax (aj [1,4] rfl ?_));refine aq (af (ab 3 rfl (ae [1,4,29] ?_)));refine az rfl (fun hb=> ?_) (fun hb=> ?_)
   ·
    have h1:¬S.status=1:=by simpa using hb
    have acx:p.lp.zZ:=by
     rcases jN.Ej with ⟨h9,_⟩ | ⟨_,h9,_⟩ | ⟨_,h9,_⟩
     ·exact absurd h9 h1
     ·exact h9
     ·obtain⟨z9,_,a7⟩:=h9.2 0
      have e9:a5 p.lp.n (fn (List.replicate p.free.length 0)) z9=0:=ks fun j _=>by rw[Ld];grind
      rw[e9]at a7;exact absurd a7 (by decide)
    refine af (ab 2 rfl (ae [2,3] ?_));refine aw ⟨.inr rfl,_,.tmp rfl (.tmp rfl (.nil)),?_⟩;exact⟨Lr,_,_,_,_,rfl,.inr (.inr (.inl ⟨a8,ib,acx,rfl,rfl,rfl,rfl⟩))⟩
   ·
    have h1:S.status=1:=by simpa using hb
    obtain⟨k1,k2,k3⟩:=jN.Ek h1;refine ax (aj [1,4] rfl ?_);refine af (ab 1 rfl (ae [1,4,6] ?_));refine af (ab 3 rfl (ae [1,4,6,7] ?_));refine aq (aD (nz (fun(w:Value×Value×Value×Value)(ys:List Value)(z:S7)(aa:Prg×List Rat×List Rat)=>aa.2.2.length) (fun(w:Value×Value×Value×Value)(ys:List Value)(z:S7)(aa:Prg×List Rat×List Rat)=>put (put (put (put (emp) 1 (.box [w.2.1,w.2.2.1])) 4 (.box [z.a,z.b,z.c,z.d,z.e,z.f,z.g])) 6 (.val (w.1))) 7 (.val (w.2.2.2))) (fun(w:Value×Value×Value×Value)(ys:List Value)(z:S7)(aa:Prg×List Rat×List Rat) H'=>aco p l E f0 H H' w ys aa) (.slice none 0 0,.slice Af p.free.length cf,.slice Ar p.rows.length cr,.slice R1 S.x.length R2) [] ⟨.int .i64 S.status,.bool f3,.slice B31 m31 e31,.slice B32 m32 e32,.slice R1 S.x.length R2,.slice B3d S.fw.length e3d,.slice B3r S.ray.length e3r⟩ (p,[],S.x) (⟨(Ck H3).down Lr,by rw[qt,pS];exact(hp.mono hN).le Lr,by rw[qt,pS];exact tK,a8,ib,k2.cT.meets,k2.cT.len,fun y h=>h,Nat.zero_add _,rfl,hz.wj,⟨D0,by rw[List.length_nil,Nat.zero_mul];exact wh⟩,(fun q h=>by cases h)⟩) ay ?_));rintro w ys z aa H4 hI;obtain⟨w1,wf,wr,wx⟩:=w;obtain⟨q,a,x⟩:=aa;have hG:=hI.Le;have hP:=hI.prog;have hR:=hI.rest;have Gm:=hI.ok
    have yT:=hI.free;have sw:=hI.meets;have tL:=hI.len;have IQ:=hI.mN;have Ls:=hI.rows
    simp only at hG hP hR Gm yT sw tL IQ Ls
    obtain⟨W,cw,rfl⟩:=hG.form;obtain⟨Qf,qf,Qr,qr,eQ⟩:=hP.Q8
    simp only[Value.agg.injEq,Array.mk.injEq,List.cons.injEq,and_true]at eQ
    obtain⟨rfl,rfl⟩:=eQ;obtain⟨Rx,rx,xx,rfl,jK,vp,s8⟩:=id hR;refine aq (af (ab 3 rfl (ae [1,4,6,7,34] ?_)));refine az rfl (fun hb=> ?_) (fun hb=> ?_)
    ·
     have R3:(0:Int)<(x.length:Int):=by simpa using hb
     have gn:0<x.length:=by omega
     obtain⟨u,ED⟩:∃u,x[0]? = some u:=⟨_,List.getElem?_eq_getElem gn⟩;have hfu:fn x 0=u:=iu ED;obtain⟨g6,G1,n1,o1,G2,n2,o2,acj,Gj,acy⟩:=aH.qq s8 ED;obtain⟨D,hD⟩:=hI.bin
     have hfE:f0+a.length*(E+2*ao.cC l+1)+(E+2*ao.cC l+1)≤99999998:=by
      have h9:a.length*(E+2*ao.cC l+1)+(E+2*ao.cC l+1)≤(p.free.length+1)*(E+2*ao.cC l+1):=by rw[←Nat.succ_mul];exact Nat.mul_le_mul_right _ (by omega)
      omega
     generalize hff:f0+a.length*(E+2*ao.cC l+1)=ff at hD hfE
     have yB:e7 l q.rows.length q.lp.m≤E:=by have h9:e7 l q.rows.length q.lp.m=e7 l p.rows.length p.rows.length:=by rw[show q.lp.m=q.rows.length from rfl,Ls]
                                             omega
     refine ax (aj [1,4,6,7] rfl ?_);refine aD (TW (fun(r9:Value)(z9:S7)(x9:List Rat)=>put (put (put (put (emp) 1 (.box [.slice Qf q.free.length qf,.slice Qr q.rows.length qr])) 4 (.box [z9.a,z9.b,z9.c,z9.d,z9.e,z9.f,z9.g])) 6 (.val (.slice W a.length cw))) 7 (.val (r9))) (fun(r9:Value)(z9:S7)(x9:List Rat) H'=>dL fy 29 3 (rem H4 (aB (.slice W a.length cw))) H' (.slice W a.length cw) a ys∧aH (bJ KX) 3 (rem H' (aB (.slice W a.length cw))) r9 x9∧Lq D E ff q x9∧x9.length=x.length) ?_ ?_)
     ·
      refine af (ab 1 rfl (cS (vs:=[.bool g6,.slice G1 n1 o1,.slice G2 n2 o2]) ag rfl rfl rfl rfl (vp.le (bn _ _)) rfl (by decide) acy (by omega) (by omega) fun _=>(au rfl rfl (hG.call (M9 Gj (by decide))) ?_)));rintro _ H5 ph;have iW:=hG.vX.od gZ ph fun _ _ h=>h.1;obtain⟨⟨_,rfl⟩,_⟩:=ph;have hP5:=hP.le iW.base;have hR5:=hR.le (cD KX) iW.base;refine ab 1 rfl (ae [1,4,6,7,39] ?_);refine az rfl (fun hb=> ?_) (fun hb=> ?_)
      ·
       have R4:¬fK u=0:=by simpa using hb
       refine af (ab 2 rfl (iF Tryz.underlying26 cZ rfl rfl rfl (by omega) (by omega) (by omega) (by omega) ?_));intro g hg;have hU:=iW.ins gZ ⟨cA [.bool false,.slice none 0 0,.slice none 0 0] ((x.length:Int).toNat*3),(x.length:Int).toNat*3,29,true⟩ hg;have Dr:¬g∈aB (.slice W a.length cw):=fun hm=>iW.mf g hm hg;refine ab 1 rfl (ae [1,4,6,8] ?_);refine af (ab 1 rfl (au rfl rfl (Fn.frame (gs:=g::aB (.slice W a.length cw)) (fun q hq=>by rcases List.mem_cons.1 hq with rfl | hq;(rw[bx];simp);exact hU.mf q hq) (HP (n:=1) (by decide) (by decide))) ?_));rintro _ H7 ⟨⟨fW,ka⟩,R5⟩;obtain⟨f7,rN,rO,rP,rQ,rR,rS,rfl⟩:=ka.form
       have FF:H7 g=some ⟨cA [.bool false,.slice none 0 0,.slice none 0 0] ((x.length:Int).toNat*3),(x.length:Int).toNat*3,29,true⟩:=by rw[R5 g (List.mem_cons_self ..),bx]
       obtain⟨ti,ak,al⟩:=bT;refine dP (.inl rfl) ag rfl rfl rfl (by omega) (by rw[Int.toNat_natCast];exact R3) FF rfl (by rw[GQ,Nat.zero_add];exact Nat.le_refl _) ak al (fun _=>rfl) rfl rfl rfl fun _=> ?_;have acz:rem H7 (g::aB (.slice W a.length cw))=rem (ins H7 g {(⟨cA [.bool false,.slice none 0 0,.slice none 0 0] ((x.length:Int).toNat*3),(x.length:Int).toNat*3,29,true⟩:aG)with xs:=aC (cA [.bool false,.slice none 0 0,.slice none 0 0] ((x.length:Int).toNat*3)) (0+(0:Int).toNat*3) [.bool f7,.slice rN rO rP,.slice rQ rR rS]}) (g::aB (.slice W a.length cw)):=(bZ _ (List.mem_cons_self ..)).symm
       have kH:aH (bJ KX) 3 (rem (ins H7 g {(⟨cA [.bool false,.slice none 0 0,.slice none 0 0] ((x.length:Int).toNat*3),(x.length:Int).toNat*3,29,true⟩:aG)with xs:=aC (cA [.bool false,.slice none 0 0,.slice none 0 0] ((x.length:Int).toNat*3)) (0+(0:Int).toNat*3) [.bool f7,.slice rN rO rP,.slice rQ rR rS]}) (aB (.slice W a.length cw))) (.slice (some ⟨g,0,none⟩) (x.length:Int).toNat (x.length:Int).toNat) (oe x.length):=by
        rw[qZ _ Dr,Int.toNat_natCast];refine⟨_,x.length,_,by rw[Ln],by rw[Ln];exact Nat.le_refl _,eH _ _ _ _ _ _,?_⟩
        have hE0:bg (bJ KX (ins (rem H7 (aB (.slice W a.length cw))) g ⟨aC (cA [.bool false,.slice none 0 0,.slice none 0 0] (x.length*3)) (0*3) [.bool f7,.slice rN rO rP,.slice rQ rR rS],x.length*3,29,true⟩)) 3 (aC (cA [.bool false,.slice none 0 0,.slice none 0 0] (x.length*3)) (0*3) [.bool f7,.slice rN rO rP,.slice rQ rR rS]) ((List.replicate x.length (0:Rat)).set 0 1):=by
         refine bg.set (HW (P:=bJ KX _) rfl KI x.length) (by rw[List.length_replicate];exact gn) ?_ rfl;have h9:bL (rem H7 (g::aB (.slice W a.length cw))) (.agg #[.bool f7,.slice rN rO rP,.slice rQ rR rS]) 1 KX:=(dI.raw (q:=(1:Int)) ka).mono (by show aK ((1:Int):Rat)≤200000000;exact Nat.le_trans (show aK ((1:Int):Rat)≤1 by decide) (by decide));refine bL.le h9 ?_;rw[←qZ _ Dr];have h8:=bZ (H:=H7) (gs:=g::aB (.slice W a.length cw)) ⟨aC (cA [.bool false,.slice none 0 0,.slice none 0 0] (x.length*3)) (0*3) [.bool f7,.slice rN rO rP,.slice rQ rR rS],x.length*3,29,true⟩ (List.mem_cons_self ..);rw[←h8];exact DV _ _ _
        exact hE0
       have Lu:Heap.le (rem H5 (aB (.slice W a.length cw))) (rem (ins H7 g {(⟨cA [.bool false,.slice none 0 0,.slice none 0 0] ((x.length:Int).toNat*3),(x.length:Int).toNat*3,29,true⟩:aG)with xs:=aC (cA [.bool false,.slice none 0 0,.slice none 0 0] ((x.length:Int).toNat*3)) (0+(0:Int).toNat*3) [.bool f7,.slice rN rO rP,.slice rQ rR rS]}) (aB (.slice W a.length cw))):=by
        have h9:rem (ins H5 g ⟨cA [.bool false,.slice none 0 0,.slice none 0 0] ((x.length:Int).toNat*3),(x.length:Int).toNat*3,29,true⟩) (g::aB (.slice W a.length cw))=rem H5 (aB (.slice W a.length cw)):=q3 _ hg
        have h8:Heap.le (rem H5 (aB (.slice W a.length cw))) (rem H7 (g::aB (.slice W a.length cw))):=by rw[←h9];exact fW
        refine h8.trans ?_;rw[acz];exact DV _ _ _
       have iz:dL fy 29 3 (rem H4 (aB (.slice W a.length cw))) (ins H7 g {(⟨cA [.bool false,.slice none 0 0,.slice none 0 0] ((x.length:Int).toNat*3),(x.length:Int).toNat*3,29,true⟩:aG)with xs:=aC (cA [.bool false,.slice none 0 0,.slice none 0 0] ((x.length:Int).toNat*3)) (0+(0:Int).toNat*3) [.bool f7,.slice rN rO rP,.slice rQ rR rS]}) (.slice W a.length cw) a ys:=iW.step gZ (fun q9 nY=>by have a6:q9≠g:=fun e=>Dr (e▸nY);rw[bA _ _ a6,R5 q9 (List.mem_cons_of_mem _ nY),bA _ _ a6]) Lu
       generalize ins H7 g {(⟨cA [.bool false,.slice none 0 0,.slice none 0 0] ((x.length:Int).toNat*3),(x.length:Int).toNat*3,29,true⟩:aG)with xs:=aC (cA [.bool false,.slice none 0 0,.slice none 0 0] ((x.length:Int).toNat*3)) (0+(0:Int).toNat*3) [.bool f7,.slice rN rO rP,.slice rQ rR rS]}=H8 at kH Lu iz⊢
       refine ae [1,4,6,8] ?_;refine af (ab 2 rfl (au rfl rfl (iz.call (Gf (N:=KX) (M:=bits l q.rows.length q.lp.m ff) (hP5.le Lu) kH (by decide) Gm (by rw[Ln,tL]) (JC hI.wj (fun j _=>by rw[Gk gn];split;exact hz.one;exact hz.zero) hD (.inl (Nat.le_refl _))) (by unfold bits;omega))) ?_));rintro _ H9 R6;have mY:=iz.od gZ R6 fun _ _ h=>h.1;obtain⟨⟨jI,S,f9,B91,m91,e91,B92,m92,e92,B9x,e9x,B9d,e9d,B9r,e9r,rfl,jN,Cz,nN,tK,wi,xW⟩,_⟩:=R6;have dO:=acu (q:=q) (S:=S) (by omega) yT sw (by rw[←tL];exact jN);obtain⟨_,k9,_⟩:=jN.Ek dO;refine vr 3 ?_;obtain⟨ti,ak,al⟩:=lL;refine aM (.inl ⟨rfl,rfl⟩) rfl rfl rfl ak al rfl rfl rfl (ab 1 rfl (ae [1,4,5,6] ?_));refine aq (af (ab 2 rfl (ae [1,4,5,6,53] ?_)));refine dG rfl (ax (aj [1,4,6] rfl ?_));refine aq (af (ab 3 rfl (ae [1,4,6,57] ?_)));refine az rfl (fun hb=> ?_) (fun hb=> ?_)
       ·
        have h9:¬S.status=1:=by simpa using hb
        exact absurd dO h9
       ·
        skip
        refine ax (aj [1,4,6] rfl ?_);refine aF rfl (ab 3 rfl (aA ?_));exact⟨_,⟨_,_,_,_,_,_,_⟩,S.x,ay,mY,tK,acr (by omega) hI.wj hz.one hz.zero hD (.inl (Nat.le_refl _)) yB (by rw[←tL];exact jN) dO (by rw[←tL];exact Cz),by rw[k9.cT.len,tL]⟩
      ·
       have R4:fK u=0:=by simpa using hb
       have hu0:u=0:=s4 R4;refine ax ?_;exact⟨_,z,x,ay,iW,hR5,acq (by omega) yT sw tL (by rw[hfu];exact hu0),rfl⟩
     ·
      rintro r9 z9 x9 H9 ⟨mY,R7,CA,Pt⟩;obtain⟨Rx9,rx9,xx9,rfl,ad4,R8,acA⟩:=id R7
      have acB:0<x9.length:=by omega
      obtain⟨u9,R9⟩:∃u,x9[0]? = some u:=⟨_,List.getElem?_eq_getElem acB⟩;have Lv:fn x9 0=u9:=iu R9;obtain⟨h6,U1,v1,y1,U2,v2,y2,ad5,Sa,Sb⟩:=aH.qq acA R9;obtain⟨D1,d11,d12,d13⟩:=CA.com
      have jg:0<q.free.length:=by omega
      have Gn:iy (ao.dV l*(D1*D)) (f0+(a ++ [fn x9 0]).length*(E+2*ao.cC l+1)) (eT q (fn x9 0)):=by
       have h9:=abD hI.wj jg hD d11 d12 d13;rw[show f0+(a ++ [fn x9 0]).length*(E+2*ao.cC l+1)=2*ao.cC l+(E+ff)+1 by rw[List.length_append,List.length_singleton,Nat.succ_mul a.length];omega];exact h9
      have Jc:0≤fn x9 0:=CA.meets.1 0 jg (Gl yT 0)
      have hm9:(eT q (fn x9 0)).lp.cO 1 (fn (x9.drop 1)):=by
       have h9:=(KR (v:=fn x9 0) jg (fn x9) rfl (fun _=>Jc)).2 CA.meets
       have e9:(fun j=>fn x9 (j+1))=fn (x9.drop 1):=by funext j;rw[KQ]
       rwa [e9]at h9
      have acC:∀y,pd (eT q (fn x9 0)) y→pd p ((a ++ [fn x9 0])++y):=fun y hy=>by
       rw[List.append_assoc];exact hI.chain _ (abA jg (Gl yT 0) Jc CA.min hy)
      have acD:aK (fn x9 0)≤KX:=by
       have h9:=R0 (f:=E+ff) (Nat.mul_pos d11 hD.pos) (by rw[Nat.pow_add];exact Nat.mul_le_mul d12 hD.le) d13
       show _≤200000000
       omega
      have K7:∀q',q'∈a ++ [fn x9 0]→aK q'≤KX:=fun q' h=>by
       rcases List.mem_append.1 h with h | h
       ·exact hI.sz q' h
       ·rw[List.mem_singleton]at h;rw[h];exact acD
      have hMq:∀r,r∈q.rows→aK (r.2.2-fn r.1 0*u9)≤KX:=fun r hr=>by
       obtain⟨i,hi⟩:=List.getElem?_of_mem hr;have lJ:=(List.getElem?_eq_some_iff.1 hi).1;have h9:=Gn.b i (show i<(q.rows.map _).length by rw[List.length_map];exact lJ)
       have e9:(eT q (fn x9 0)).lp.b i=r.2.2-fn r.1 0*u9:=by
        show ((eT q (fn x9 0)).row i).2.2=_
        rw[yN lJ,Prg.jF hi,Lv]
       rw[e9]at h9;have h8:=R0 Gn.pos Gn.le h9
       have e8:f0+(a ++ [fn x9 0]).length*(E+2*ao.cC l+1)=2*ao.cC l+(E+ff)+1:=by rw[List.length_append,List.length_singleton,Nat.succ_mul a.length];omega
       show _≤200000000
       omega
      have iB:a.length≤400:=by omega
      refine af (ab 2 rfl (cS (vs:=[.bool h6,.slice U1 v1 y1,.slice U2 v2 y2]) ag rfl rfl rfl rfl (R8.le (bn _ _)) rfl (by decide) Sb (by omega) (by omega) fun _=>(au rfl rfl (mY.call (xd Sa (by decide))) ?_)));rintro _ H6 pj;have hU:=mY.vX.od gZ pj fun _ _ h=>h.1;obtain⟨⟨_,ix⟩,_⟩:=pj;obtain⟨f6,qw,qx,qy,qz,qA,qB,rfl⟩:=ix.form;refine cU Tryz.underlying26 cZ rfl rfl rfl rfl rfl rfl rfl ?_;intro gb bH;have yS:=hU.ins gZ (whole (cz [.agg #[.bool f6,.slice qw qx qy,.slice qz qA qB]]) 29) bH;refine dY Tryz.underlying26 cZ rfl rfl yS.own (eH _ _ _ _ _ _) rfl (KF _ _ _ _ _ _ _) (by omega) (by omega) ?_;intro v7 H7 Lm;have km:=yS.append gZ (k:=[fn x9 0]) (by simp) Lm (iq (gZ _ _ _ _ (uY _ (Heap.a0 _ bH)) (show fy _ [_,_,_] _ from Lv▸ix)) rfl);obtain⟨F7,c7,rfl⟩:=km.form;have CB:=km.base;have hP7:=(hP.le mY.base).le CB;have acE:=Sa.le CB;have hR7:=R7.le (cD KX) CB;refine ab 1 rfl (ae [1,4,6,7] ?_);refine cg .bR [0,1,2,3,4,5] follows (by kernel_rfl) ?_;refine ab 2 rfl (cS (vs:=[.bool h6,.slice U1 v1 y1,.slice U2 v2 y2]) ag rfl rfl rfl rfl ((R8.le CB).le (bn _ _)) rfl (by decide) Sb (by omega) (by omega) fun _=>(aT rfl rfl (km.call (aci (t:=⟨h6,U1,v1,y1,U2,v2,y2⟩) (M:=KX) hP7 acE Gm jg (by decide) (Nat.le_refl _) hMq)) (fun _ _ h=>h.le fun _ _ h=>h.1) ?_))
      rintro _ H8 Sc;have Sd:=km.vX.od gZ Sc fun _ _ h=>h.1;obtain⟨⟨_,P1,p1,d1,P2,p2,d2,rfl,Se⟩,_⟩:=Sc;rw[←Lv]at Se;have jt:=(hR7.le (cD KX) Sd.base).from (k:=1) (by omega);have iz:=Sd.down (((hG.base.trans mY.base).trans CB));obtain⟨ti,ak,al⟩:=qM;refine aM (.inl ⟨rfl,rfl⟩) rfl rfl rfl ak al rfl rfl rfl (ae [1,4,6,7] ?_);refine aF rfl (ab 1 rfl (qL (l:=1) (h:=x9.length) ag rfl rfl (.inr ⟨_,_,rfl,rfl⟩) (.inl ⟨rfl,rfl⟩) (by omega) (by omega) (ab 1 rfl (aA ?_))));exact⟨(_,_,_,_),_,z9,(eT q (fn x9 0),a ++ [fn x9 0],x9.drop 1),by show (x9.drop 1).length<x.length;rw[List.length_drop];omega,ay,⟨iz,Se,jt,abx Gm (by omega),acp yT,hm9,by show (x9.drop 1).length=(q.free.drop 1).length;rw[List.length_drop,List.length_drop,CA.len],acC,by show (a ++ [fn x9 0]).length+(q.free.drop 1).length=_;rw[List.length_append,List.length_drop,List.length_singleton];omega,by show (q.rows.map _).length=_;rw[List.length_map];exact Ls,abC hI.wj,⟨_,Gn⟩,K7⟩⟩
    ·
     have R3:(x.length:Int)≤0:=by simpa using hb
     have gn:x = []:=List.length_eq_zero_iff.1 (by omega);have jg:q.free = []:=List.length_eq_zero_iff.1 (by rw[←tL,gn];rfl);have F4:=hI.chain [] (abz jg sw)
     simp only[List.append_nil]at F4
     refine bC (aj [6] rfl ?_);refine af (ab 3 rfl (ae [2,3] ?_));refine aw ⟨.inr rfl,_,.tmp rfl (.tmp rfl (.nil)),?_⟩;exact⟨hG.le,_,_,_,0,rfl,.inr (.inr (.inr ⟨a8,ib,rfl,a,F4,(hG.sl gZ).Cj hI.sz⟩))⟩
end Go.ar
