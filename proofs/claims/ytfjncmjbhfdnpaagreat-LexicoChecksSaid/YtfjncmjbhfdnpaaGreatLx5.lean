/- Walks over package lexico, part 5: Least. -/
import Derived.Test.YtfjncmjbhfdnpaaGreatA10
import Derived.Test.YtfjncmjbhfdnpaaGreatLx4
set_option linter.unusedVariables false
namespace Go.ay
open Go.Proofs Num Lp
def qy(k:Nat):List Rat:=(List.replicate k 0).set 0 1
theorem Oy(k:Nat):(qy k).length=k:=by simp[qy]
theorem JL{k:Nat}(hk:0<k)(j:Nat):fn (qy k) j=if j=0 then 1 else 0:=by
 unfold fn qy
 rw[List.getD,List.getElem?_set]
 by_cases h:0=j
 ·subst h;simp[hk]
 ·rw[if_neg h,if_neg (fun e=>h e.symm),List.getElem?_replicate];split <;> rfl
theorem Oz{k:Nat}(hk:0<k)(z:Nat→Rat):aX k (fn (qy k)) z=z 0:=by
 unfold aX
 rw[qd hk _ (fun j _ hj=>by rw[JL hk,if_neg hj];grind),JL hk,if_pos rfl];grind
structure VE(p:Prg)(l:List Rat)(E f0:Nat):Prop where
 zE:In l p
 one:1∈l
 zero:0∈l
 bin:∃D,j7 D f0 p
 bit:gU l p.rows.length p.rows.length≤E
 JI:f0+(p.free.length+1)*(E+2*ao.dt l+1)≤99999998
def afo(p:Prg)(H:Heap)(v:Value)(H':Heap):Prop:=Heap.le H H'∧∃A k c e,v = .tuple #[.slice A k c,.int .i64 e]∧
 ((¬p.Ok∧e=1∧A=none∧k=0∧c=0)∨(p.Ok∧(∃j:Nat,p.free[j]? = some true)∧e=7∧A=none∧k=0∧c=0)∨(p.Ok∧(¬∃j:Nat,p.free[j]? = some true)∧p.lp.DC∧e=17∧A=none∧k=0∧c=0)∨
  (p.Ok∧(¬∃j:Nat,p.free[j]? = some true)∧e=0∧∃y,rE p y∧aC (aS KX) 3 H' (.slice A k c) y))
structure S7 where
 a:Value
 b:Value
 c:Value
 d:Value
 e:Value
 f:Value
 g:Value
structure afp(p:Prg)(l:List Rat)(E f0:Nat)(H H':Heap)(w:Value×Value×Value×Value)(ys:List Value)(a:Prg×List Rat×List Rat):Prop where
 On:eA gI 31 3 H H' w.1 a.2.1 ys
 prog:cN KX (rem H' (aB w.1)) (.agg #[w.2.1,w.2.2.1]) a.1
 rest:aC (aS KX) 3 (rem H' (aB w.1)) w.2.2.2 a.2.2
 ok:a.1.Ok
 free:¬∃j:Nat,a.1.free[j]? = some true
 meets:a.1.lp.dJ 1 (fn a.2.2)
 len:a.2.2.length=a.1.free.length
 chain:∀y,rE a.1 y→rE p (a.2.1++y)
 pd:a.2.1.length+a.1.free.length=p.free.length
 rows:a.1.rows.length=p.rows.length
 zE:In l a.1
 bin:∃D,j7 D (f0+a.2.1.length*(E+2*ao.dt l+1)) a.1
 sz:∀q,q∈a.2.1→aJ q≤KX
theorem JM{p:Prg}(h:¬∃j:Nat,p.free[j]? = some true)(j:Nat):p.lp.free j=false:=by
 show p.free.getD j false=false
 rw[List.getD]
 cases hj:p.free[j]? with
 | none=>rfl
 | some b=>
  cases b with
  | false=>rfl
  | true=>exact absurd ⟨j,hj⟩ h
theorem afq{p:Prg}{v:Rat}(h:¬∃j:Nat,p.free[j]? = some true):¬∃j:Nat,(gC p v).free[j]? = some true:=fun⟨j,hj⟩=>by
 have hj:(p.free.drop 1)[j]? = some true:=hj
 rw[List.getElem?_drop]at hj
 exact h ⟨_,hj⟩
structure OA(D E f:Nat)(q:Prg)(x:List Rat):Prop where
 meets:q.lp.dJ 1 (fn x)
 len:x.length=q.free.length
 min:∀z,q.lp.dJ 1 z→fn x 0≤z 0
 com:∃D1,0<D1∧D1≤2^E∧ao.dN (D1*D) (2^(E+f)) (fn x 0)
theorem afr{D E f:Nat}{q:Prg}{x:List Rat}(hn:0<q.free.length)(hf:¬∃j:Nat,q.free[j]? = some true)(h:q.lp.dJ 1 (fn x))(hl:x.length=q.free.length)(h0:fn x 0=0):OA D E f q x:=
 ⟨h,hl,fun z hz=>by rw[h0];exact hz.1 0 hn (JM hf 0),1,by omega,Nat.one_le_two_pow,by rw[h0];exact ao.yw _ _⟩
theorem afs{D E f k:Nat}{q:Prg}{l:List Rat}{S:pc}(hn:0<q.free.length)(hl:In l q)(h1:1∈l)(h0:0∈l)(hb:j7 D f q)(hk:BO q k)(hE:gU l k q.lp.m≤E)(hc:qe q (qy q.free.length) S)(hs:S.status=1)(hL:I8 q (qy q.free.length) S):OA D E f q S.x:=by
 obtain⟨_,k2,k3⟩:=hc.HH hs
 have aft:=k2.cert.Lj k2.dB.ok.valid
 refine⟨k2.dB.meets,k2.dB.len,fun z hz=> ?_,?_⟩
 ·have h9:=aft.2 z hz
  have e1:aX q.lp.n (fn (qy q.free.length)) z=z 0:=Oz hn z
  have e2:aX q.lp.n (fn (qy q.free.length)) (fn S.x)=fn S.x 0:=Oz hn _
  rwa [e1,e2]at h9
 ·obtain⟨T,hT,_,e2⟩:=hL hs
  obtain⟨D1,g1,g2,_,g4⟩:=S2 hl (fun j _=>by rw[JL hn];split;exact h1;exact h0) hb hk hT
  refine⟨D1,g1,Nat.le_trans g2 (Nat.pow_le_pow_right (by decide) hE),?_⟩
  have hx:fn S.x 0∈S.x:=lI (by rw[k2.dB.len];exact hn)
  rw[e2]at hx
  have h9:=(g4 _ hx).mono (Nat.pow_le_pow_right (n:=2) (by decide) (show gU l k q.lp.m+f≤E+f by omega))
  rwa [←e2]at h9
theorem afu{q:Prg}{S:pc}{x:Nat→Rat}(hn:0<q.free.length)(hf:¬∃j:Nat,q.free[j]? = some true)(hx:q.lp.dJ 1 x)(hc:qe q (qy q.free.length) S):S.status=1:=by
 rcases hc.HG with ⟨h,_⟩ | ⟨_,h,_⟩ | ⟨_,h,_⟩
 ·exact h
 ·exact absurd hx (h x)
 ·obtain⟨z,hz,bH⟩:=h.2 0
  have e1:aX q.lp.n (fn (qy q.free.length)) z=z 0:=Oz hn z
  rw[e1]at bH
  have:=hz.1 0 hn (JM hf 0)
  grind
theorem VF{D f:Nat}{q:Rat}(h1:0<D)(h2:D≤2^f)(h:ao.dN D (2^f) q):aJ q≤f+1:=BL h1 h h2 (Nat.le_refl _)
theorem aeY{H:Heap}{v:Value}{p:Prg}{l:List Rat}{N E f0:Nat}(hp:cN N H v p)(hN:N≤KX)(cP:p.Ok→VE p l E f0):
  Fn Tryz.prog 24 #[v] H (afo p H):=by
 obtain⟨fv,fG,rfl,cB,cF⟩:=id hp
 obtain⟨Af,cf,xf,rfl,ea,eH⟩:=cB.one
 obtain⟨Ar,cr,xr,rfl,fO,cL,du⟩:=id cF
 have Vr:N≤200000000:=hN;refine aU (args:=[_]) Tryz.func24 rfl rfl Tryz.ntmps24 rfl rfl fun w0=> ?_;refine ag [0] rfl ?_;refine ae ?_;refine bF rfl rfl ?_;refine vr 2 ?_;refine ab [1] ?_;refine al ?_;refine ae ?_;refine vr 1 ?_;refine ar rfl rfl (Fu hp) ?_;rintro _ H1 ⟨e1,b1,rfl,di⟩;rw[e1];refine vr 1 ?_;refine ab [1,11] ?_;refine az rfl (fun hb=> ?_) (fun hb=> ?_)
 ·
  have gV:b1=false:=by simpa using hb
  subst gV;refine ae ?_;refine vr 2 ?_;refine ab [2,3] ?_;refine aq ⟨.inr rfl,_,.tmp rfl (.tmp rfl (.nil)),?_⟩;exact⟨.refl _,_,_,_,_,rfl,.inl ⟨fun h=>(by have h9:=di.2 h;cases h9),rfl,rfl,rfl,rfl⟩⟩
 ·
  have jK:b1=true:=by simpa using hb
  have aP:=di.1 jK;have dY:=aP.dR;have iQ:=aP.rows;have hz:=cP aP;have Oq:=hz.JI;have afv:=hz.bit;refine aw ?_;refine ag [1] rfl ?_;refine al ?_;refine ae ?_;refine vr 2 ?_;refine ar rfl rfl (ae9 cB (by omega)) ?_;rintro _ H2 ⟨e2,b2,rfl,aW⟩;rw[e2];refine ab [1,14] ?_;refine az rfl (fun hb=> ?_) (fun hb=> ?_)
  ·
   have FP:b2=true:=by simpa using hb
   refine ae ?_;refine vr 2 ?_;refine ab [2,3] ?_;refine aq ⟨.inr rfl,_,.tmp rfl (.tmp rfl (.nil)),?_⟩;exact⟨.refl _,_,_,_,_,rfl,.inr (.inl ⟨aP,aW.1 FP,rfl,rfl,rfl,rfl⟩)⟩
  ·
   have afw:b2=false:=by simpa using hb
   have je:¬∃j:Nat,p.free[j]? = some true:=fun h=>by have h9:=aW.2 h;rw[afw]at h9;cases h9
   obtain⟨D0,zD⟩:=hz.bin;have vA:Fits p (List.replicate p.free.length 0) (bits l p.rows.length p.lp.m f0):=MB hz.zE (fun j _=>by rw[Om];exact hz.zero) zD (.inl (Nat.le_refl _));have hEE:1*(E+2*ao.dt l+1)≤(p.free.length+1)*(E+2*ao.dt l+1):=Nat.mul_le_mul_right _ (by omega)
   have Ow:bits l p.rows.length p.lp.m f0≤99999998:=by
    have h9:gU l p.rows.length p.lp.m≤E:=afv
    unfold bits;omega
   refine aw ?_;refine ag [1] rfl ?_;refine bL .bn [0,1,2,3,4,5,6,7,8,9,10,11] follows (by kernel_rfl) ?_;refine vr 4 ?_;refine jS Tryz.underlying26 cM rfl rfl rfl (by omega) (by omega) (by omega) (by omega) ?_;intro g hg;have hle:=Heap.bC ⟨de [.bool false,.slice none 0 0,.slice none 0 0] ((p.free.length:Int).toNat*3),(p.free.length:Int).toNat*3,31,true⟩ hg;refine aH rfl rfl (JH (N:=N) (hp.le hle) Vq (by omega) aP (by rw[List.length_replicate]) vA Ow) (fun _ _ h=>by first | exact h.le | exact h.1) ?_;rintro _ H3 ⟨a7,S,f3,B31,m31,e31,B32,m32,e32,VG,VH,B3d,e3d,B3r,e3r,rfl,kf,F6,nz,w6,mq,Bs⟩;have gM:=hle.trans a7;refine vr 3 ?_;refine bh rT rfl ?_;obtain⟨ti,aj,ak⟩:=nY;refine aG (.inl ⟨rfl,rfl⟩) rfl rfl rfl aj ak rfl rfl rfl ?_;refine vr 1 ?_;refine ab [1,4,5] ?_;refine al ?_;refine ae ?_;refine vr 2 ?_;refine ab [1,4,5,25] ?_;refine dg rfl ?_;refine aw ?_;refine ag [1,4] rfl ?_;refine al ?_;refine ae ?_;refine vr 3 ?_;refine ab [1,4,29] ?_;refine az rfl (fun hb=> ?_) (fun hb=> ?_)
   ·
    have h1:¬S.status=1:=by simpa using hb
    have afx:p.lp.DC:=by
     rcases kf.HG with ⟨h9,_⟩ | ⟨_,h9,_⟩ | ⟨_,h9,_⟩
     ·exact absurd h9 h1
     ·exact h9
     ·obtain⟨z9,_,bH⟩:=h9.2 0
      have e9:aX p.lp.n (fn (List.replicate p.free.length 0)) z9=0:=mE fun j _=>by rw[Om];grind
      rw[e9]at bH;exact absurd bH (by decide)
    refine ae ?_;refine vr 2 ?_;refine ab [2,3] ?_;refine aq ⟨.inr rfl,_,.tmp rfl (.tmp rfl (.nil)),?_⟩;exact⟨gM,_,_,_,_,rfl,.inr (.inr (.inl ⟨aP,je,afx,rfl,rfl,rfl,rfl⟩))⟩
   ·
    have h1:S.status=1:=by simpa using hb
    obtain⟨k1,k2,k3⟩:=kf.HH h1;refine aw ?_;refine ag [1,4] rfl ?_;refine ae ?_;refine vr 1 ?_;refine ab [1,4,6] ?_;refine ae ?_;refine vr 3 ?_;refine ab [1,4,6,7] ?_;refine al ?_;refine aD ?_;refine pQ (fun(w:Value×Value×Value×Value)(ys:List Value)(z:S7)(aa:Prg×List Rat×List Rat)=>aa.2.2.length) (fun(w:Value×Value×Value×Value)(ys:List Value)(z:S7)(aa:Prg×List Rat×List Rat)=>put (put (put (put (emp) 1 (.box [w.2.1,w.2.2.1])) 4 (.box [z.a,z.b,z.c,z.d,z.e,z.f,z.g])) 6 (.val (w.1))) 7 (.val (w.2.2.2))) (fun(w:Value×Value×Value×Value)(ys:List Value)(z:S7)(aa:Prg×List Rat×List Rat) H'=>afp p l E f0 H H' w ys aa) (.slice none 0 0,.slice Af p.free.length cf,.slice Ar p.rows.length cr,.slice VG S.x.length VH) [] ⟨.int .i64 S.status,.bool f3,.slice B31 m31 e31,.slice B32 m32 e32,.slice VG S.x.length VH,.slice B3d S.iw.length e3d,.slice B3r S.ray.length e3r⟩ (p,[],S.x) (⟨(Cb H3).down gM,by rw[rC,gn];exact(hp.mono hN).le gM,by rw[rC,gn];exact w6,aP,je,k2.dB.meets,k2.dB.len,fun y h=>h,Nat.zero_add _,rfl,hz.zE,⟨D0,by rw[List.length_nil,Nat.zero_mul];exact zD⟩,(fun q h=>by cases h)⟩) au ?_;rintro w ys z aa H4 hI;obtain⟨w1,wf,wr,wx⟩:=w;obtain⟨q,a,x⟩:=aa;have hG:=hI.On;have hP:=hI.prog;have hR:=hI.rest;have JN:=hI.ok
    have Cr:=hI.free;have vB:=hI.meets;have w9:=hI.len;have LU:=hI.pd;have OB:=hI.rows
    simp only at hG hP hR JN Cr vB w9 LU OB
    obtain⟨W,cw,rfl⟩:=hG.form;obtain⟨Qf,qf,Qr,qr,eQ⟩:=hP.ad1
    simp only[Value.agg.injEq,Array.mk.injEq,List.cons.injEq,and_true]at eQ
    obtain⟨rfl,rfl⟩:=eQ;obtain⟨Rx,rx,xx,rfl,dL,yy,lF⟩:=id hR;refine al ?_;refine ae ?_;refine vr 3 ?_;refine ab [1,4,6,7,34] ?_;refine az rfl (fun hb=> ?_) (fun hb=> ?_)
    ·
     have VI:(0:Int)<(x.length:Int):=by simpa using hb
     have iJ:0<x.length:=by omega
     obtain⟨u,Ia⟩:∃u,x[0]? = some u:=⟨_,List.getElem?_eq_getElem iJ⟩;have hfu:fn x 0=u:=gq Ia;obtain⟨g6,G1,n1,o1,G2,n2,o2,NI,s0,afy⟩:=aC.jP lF Ia;obtain⟨D,hD⟩:=hI.bin
     have hfE:f0+a.length*(E+2*ao.dt l+1)+(E+2*ao.dt l+1)≤99999998:=by
      have h9:a.length*(E+2*ao.dt l+1)+(E+2*ao.dt l+1)≤(p.free.length+1)*(E+2*ao.dt l+1):=by rw[←Nat.succ_mul];exact Nat.mul_le_mul_right _ (by omega)
      omega
     generalize hff:f0+a.length*(E+2*ao.dt l+1)=ff at hD hfE
     have BV:gU l q.rows.length q.lp.m≤E:=by have h9:gU l q.rows.length q.lp.m=gU l p.rows.length p.rows.length:=by rw[show q.lp.m=q.rows.length from rfl,OB]
                                             omega
     refine aw ?_;refine ag [1,4,6,7] rfl ?_;refine aD ?_;refine XC (fun(r9:Value)(z9:S7)(x9:List Rat)=>put (put (put (put (emp) 1 (.box [.slice Qf q.free.length qf,.slice Qr q.rows.length qr])) 4 (.box [z9.a,z9.b,z9.c,z9.d,z9.e,z9.f,z9.g])) 6 (.val (.slice W a.length cw))) 7 (.val (r9))) (fun(r9:Value)(z9:S7)(x9:List Rat) H'=>eA gI 31 3 (rem H4 (aB (.slice W a.length cw))) H' (.slice W a.length cw) a ys∧aC (aS KX) 3 (rem H' (aB (.slice W a.length cw))) r9 x9∧OA D E ff q x9∧x9.length=x.length) ?_ ?_
     ·
      refine ae ?_;refine vr 1 ?_;refine cI (vs:=[.bool g6,.slice G1 n1 o1,.slice G2 n2 o2]) af rfl rfl rfl rfl (yy.le (bG _ _)) rfl (by decide) afy (by omega) (by omega) fun _=> ?_;refine ar rfl rfl (hG.call (KY s0 (by decide))) ?_;rintro _ H5 iD;have ij:=hG.zm.mm ix iD fun _ _ h=>h.1;obtain⟨⟨_,rfl⟩,_⟩:=iD;have hP5:=hP.le ij.base;have hR5:=hR.le (a8 KX) ij.base;refine vr 1 ?_;refine ab [1,4,6,7,39] ?_;refine az rfl (fun hb=> ?_) (fun hb=> ?_)
      ·
       have VJ:¬dF u=0:=by simpa using hb
       refine ae ?_;refine vr 2 ?_;refine jS Tryz.underlying26 cM rfl rfl rfl (by omega) (by omega) (by omega) (by omega) ?_;intro g hg;have iR:=ij.ins ix ⟨de [.bool false,.slice none 0 0,.slice none 0 0] ((x.length:Int).toNat*3),(x.length:Int).toNat*3,31,true⟩ hg;have GW:¬g∈aB (.slice W a.length cw):=fun hm=>ij.mQ g hm hg;refine vr 1 ?_;refine ab [1,4,6,8] ?_;refine ae ?_;refine vr 1 ?_;refine ar rfl rfl (Fn.frame (gs:=g::aB (.slice W a.length cw)) (fun q hq=>by rcases List.mem_cons.1 hq with rfl | hq;(rw[bT];simp);exact iR.mQ q hq) (KW (n:=1) (by decide) (by decide))) ?_;rintro _ H7 ⟨⟨gw,kX⟩,VK⟩;obtain⟨f7,uV,uW,uX,uY,uZ,u6,rfl⟩:=kX.form
       have I1:H7 g=some ⟨de [.bool false,.slice none 0 0,.slice none 0 0] ((x.length:Int).toNat*3),(x.length:Int).toNat*3,31,true⟩:=by rw[VK g (List.mem_cons_self ..),bT]
       obtain⟨ti,aj,ak⟩:=bM;refine eB (.inl rfl) af rfl rfl rfl (by omega) (by rw[Int.toNat_natCast];exact VI) I1 rfl (by rw[Kd,Nat.zero_add];exact Nat.le_refl _) aj ak (fun _=>rfl) rfl rfl rfl fun _=> ?_;have afz:rem H7 (g::aB (.slice W a.length cw))=rem (ins H7 g {(⟨de [.bool false,.slice none 0 0,.slice none 0 0] ((x.length:Int).toNat*3),(x.length:Int).toNat*3,31,true⟩:aQ)with xs:=aF (de [.bool false,.slice none 0 0,.slice none 0 0] ((x.length:Int).toNat*3)) (0+(0:Int).toNat*3) [.bool f7,.slice uV uW uX,.slice uY uZ u6]}) (g::aB (.slice W a.length cw)):=(cK _ (List.mem_cons_self ..)).symm
       have mN:aC (aS KX) 3 (rem (ins H7 g {(⟨de [.bool false,.slice none 0 0,.slice none 0 0] ((x.length:Int).toNat*3),(x.length:Int).toNat*3,31,true⟩:aQ)with xs:=aF (de [.bool false,.slice none 0 0,.slice none 0 0] ((x.length:Int).toNat*3)) (0+(0:Int).toNat*3) [.bool f7,.slice uV uW uX,.slice uY uZ u6]}) (aB (.slice W a.length cw))) (.slice (some ⟨g,0,none⟩) (x.length:Int).toNat (x.length:Int).toNat) (qy x.length):=by
        rw[tR _ GW,Int.toNat_natCast];refine⟨_,x.length,_,by rw[Oy],by rw[Oy];exact Nat.le_refl _,fu _ _ _ _ _ _,?_⟩
        have zA:bI (aS KX (ins (rem H7 (aB (.slice W a.length cw))) g ⟨aF (de [.bool false,.slice none 0 0,.slice none 0 0] (x.length*3)) (0*3) [.bool f7,.slice uV uW uX,.slice uY uZ u6],x.length*3,31,true⟩)) 3 (aF (de [.bool false,.slice none 0 0,.slice none 0 0] (x.length*3)) (0*3) [.bool f7,.slice uV uW uX,.slice uY uZ u6]) ((List.replicate x.length (0:Rat)).set 0 1):=by
         refine bI.set (K6 (P:=aS KX _) rfl NC x.length) (by rw[List.length_replicate];exact iJ) ?_ rfl;have h9:bN (rem H7 (g::aB (.slice W a.length cw))) (.agg #[.bool f7,.slice uV uW uX,.slice uY uZ u6]) 1 KX:=(cJ.raw (q:=(1:Int)) kX).mono (by show aJ ((1:Int):Rat)≤200000000;exact Nat.le_trans (show aJ ((1:Int):Rat)≤1 by decide) (by decide));refine bN.le h9 ?_;rw[←tR _ GW];have h8:=cK (H:=H7) (gs:=g::aB (.slice W a.length cw)) ⟨aF (de [.bool false,.slice none 0 0,.slice none 0 0] (x.length*3)) (0*3) [.bool f7,.slice uV uW uX,.slice uY uZ u6],x.length*3,31,true⟩ (List.mem_cons_self ..);rw[←h8];exact Hr _ _ _
        exact zA
       have OC:Heap.le (rem H5 (aB (.slice W a.length cw))) (rem (ins H7 g {(⟨de [.bool false,.slice none 0 0,.slice none 0 0] ((x.length:Int).toNat*3),(x.length:Int).toNat*3,31,true⟩:aQ)with xs:=aF (de [.bool false,.slice none 0 0,.slice none 0 0] ((x.length:Int).toNat*3)) (0+(0:Int).toNat*3) [.bool f7,.slice uV uW uX,.slice uY uZ u6]}) (aB (.slice W a.length cw))):=by
        have h9:rem (ins H5 g ⟨de [.bool false,.slice none 0 0,.slice none 0 0] ((x.length:Int).toNat*3),(x.length:Int).toNat*3,31,true⟩) (g::aB (.slice W a.length cw))=rem H5 (aB (.slice W a.length cw)):=se _ hg
        have h8:Heap.le (rem H5 (aB (.slice W a.length cw))) (rem H7 (g::aB (.slice W a.length cw))):=by rw[←h9];exact gw
        refine h8.trans ?_;rw[afz];exact Hr _ _ _
       have iz:eA gI 31 3 (rem H4 (aB (.slice W a.length cw))) (ins H7 g {(⟨de [.bool false,.slice none 0 0,.slice none 0 0] ((x.length:Int).toNat*3),(x.length:Int).toNat*3,31,true⟩:aQ)with xs:=aF (de [.bool false,.slice none 0 0,.slice none 0 0] ((x.length:Int).toNat*3)) (0+(0:Int).toNat*3) [.bool f7,.slice uV uW uX,.slice uY uZ u6]}) (.slice W a.length cw) a ys:=ij.step ix (fun q9 nK=>by have bD:q9≠g:=fun e=>GW (e▸nK);rw[bP _ _ bD,VK q9 (List.mem_cons_of_mem _ nK),bP _ _ bD]) OC
       generalize ins H7 g {(⟨de [.bool false,.slice none 0 0,.slice none 0 0] ((x.length:Int).toNat*3),(x.length:Int).toNat*3,31,true⟩:aQ)with xs:=aF (de [.bool false,.slice none 0 0,.slice none 0 0] ((x.length:Int).toNat*3)) (0+(0:Int).toNat*3) [.bool f7,.slice uV uW uX,.slice uY uZ u6]}=H8 at mN OC iz⊢
       refine ab [1,4,6,8] ?_;refine ae ?_;refine vr 2 ?_;refine ar rfl rfl (iz.call (JH (N:=KX) (M:=bits l q.rows.length q.lp.m ff) (hP5.le OC) mN (by decide) JN (by rw[Oy,w9]) (MB hI.zE (fun j _=>by rw[JL iJ];split;exact hz.one;exact hz.zero) hD (.inl (Nat.le_refl _))) (by unfold bits;omega))) ?_;rintro _ H9 VL;have pB:=iz.mm ix VL fun _ _ h=>h.1;obtain⟨⟨gJ,S,f9,B91,m91,e91,B92,m92,e92,B9x,e9x,B9d,e9d,B9r,e9r,rfl,kf,F6,nz,w6,mq,Bs⟩,_⟩:=VL;have dH:=afu (q:=q) (S:=S) (by omega) Cr vB (by rw[←w9];exact kf);obtain⟨_,k9,_⟩:=kf.HH dH;refine vr 3 ?_;obtain⟨ti,aj,ak⟩:=nY;refine aG (.inl ⟨rfl,rfl⟩) rfl rfl rfl aj ak rfl rfl rfl ?_;refine vr 1 ?_;refine ab [1,4,5,6] ?_;refine al ?_;refine ae ?_;refine vr 2 ?_;refine ab [1,4,5,6,53] ?_;refine dg rfl ?_;refine aw ?_;refine ag [1,4,6] rfl ?_;refine al ?_;refine ae ?_;refine vr 3 ?_;refine ab [1,4,6,57] ?_;refine az rfl (fun hb=> ?_) (fun hb=> ?_)
       ·
        have h9:¬S.status=1:=by simpa using hb
        exact absurd dH h9
       ·
        skip
        refine aw ?_;refine ag [1,4,6] rfl ?_;refine aE rfl ?_;refine vr 3 ?_;refine aA ?_;exact⟨_,⟨_,_,_,_,_,_,_⟩,S.x,au,pB,w6,afs (by omega) hI.zE hz.one hz.zero hD (.inl (Nat.le_refl _)) BV (by rw[←w9];exact kf) dH (by rw[←w9];exact F6),by rw[k9.dB.len,w9]⟩
      ·
       have VJ:dF u=0:=by simpa using hb
       have N2:u=0:=wg VJ;refine aw ?_;exact⟨_,z,x,au,ij,hR5,afr (by omega) Cr vB w9 (by rw[hfu];exact N2),rfl⟩
     ·
      rintro r9 z9 x9 H9 ⟨pB,VM,F9,Sp⟩;obtain⟨Rx9,rx9,xx9,rfl,ahf,VN,afA⟩:=id VM
      have afB:0<x9.length:=by omega
      obtain⟨u9,VO⟩:∃u,x9[0]? = some u:=⟨_,List.getElem?_eq_getElem afB⟩;have OD:fn x9 0=u9:=gq VO;obtain⟨h6,U1,v1,y1,U2,v2,y2,ahg,VP,VQ⟩:=aC.jP afA VO;obtain⟨D1,d11,d12,d13⟩:=F9.com
      have gF:0<q.free.length:=by omega
      have Ck:j7 (ao.fo l*(D1*D)) (f0+(a ++ [fn x9 0]).length*(E+2*ao.dt l+1)) (gC q (fn x9 0)):=by
       have h9:=aeE hI.zE gF hD d11 d12 d13;rw[show f0+(a ++ [fn x9 0]).length*(E+2*ao.dt l+1)=2*ao.dt l+(E+ff)+1 by rw[List.length_append,List.length_singleton,Nat.succ_mul a.length];omega];exact h9
      have Ma:0≤fn x9 0:=F9.meets.1 0 gF (JM Cr 0)
      have hm9:(gC q (fn x9 0)).lp.dJ 1 (fn (x9.drop 1)):=by
       have h9:=(NV (v:=fn x9 0) gF (fn x9) rfl (fun _=>Ma)).2 F9.meets
       have e9:(fun j=>fn x9 (j+1))=fn (x9.drop 1):=by funext j;rw[NU]
       rwa [e9]at h9
      have afC:∀y,rE (gC q (fn x9 0)) y→rE p ((a ++ [fn x9 0])++y):=fun y hy=>by
       rw[List.append_assoc];exact hI.chain _ (aeA gF (JM Cr 0) Ma F9.min hy)
      have afD:aJ (fn x9 0)≤KX:=by
       have h9:=VF (f:=E+ff) (Nat.mul_pos d11 hD.pos) (by rw[Nat.pow_add];exact Nat.mul_le_mul d12 hD.le) d13
       show _≤200000000
       omega
      have hz9:∀q',q'∈a ++ [fn x9 0]→aJ q'≤KX:=fun q' h=>by
       rcases List.mem_append.1 h with h | h
       ·exact hI.sz q' h
       ·rw[List.mem_singleton]at h;rw[h];exact afD
      have hMq:∀r,r∈q.rows→aJ (r.2.2-fn r.1 0*u9)≤KX:=fun r hr=>by
       obtain⟨i,hi⟩:=List.getElem?_of_mem hr;have mx:=(List.getElem?_eq_some_iff.1 hi).1;have h9:=Ck.b i (show i<(q.rows.map _).length by rw[List.length_map];exact mx)
       have e9:(gC q (fn x9 0)).lp.b i=r.2.2-fn r.1 0*u9:=by
        show ((gC q (fn x9 0)).row i).2.2=_
        rw[Ch mx,Prg.gu hi,OD]
       rw[e9]at h9;have h8:=VF Ck.pos Ck.le h9
       have e8:f0+(a ++ [fn x9 0]).length*(E+2*ao.dt l+1)=2*ao.dt l+(E+ff)+1:=by rw[List.length_append,List.length_singleton,Nat.succ_mul a.length];omega
       show _≤200000000
       omega
      have cO:a.length≤400:=by omega
      refine ae ?_;refine vr 2 ?_;refine cI (vs:=[.bool h6,.slice U1 v1 y1,.slice U2 v2 y2]) af rfl rfl rfl rfl (VN.le (bG _ _)) rfl (by decide) VQ (by omega) (by omega) fun _=> ?_;refine ar rfl rfl (pB.call (AE VP (by decide))) ?_;rintro _ H6 mr;have iR:=pB.zm.mm ix mr fun _ _ h=>h.1;obtain⟨⟨_,kY⟩,_⟩:=mr;obtain⟨f6,mT,mU,mV,mW,mX,mY,rfl⟩:=kY.form;refine dM Tryz.underlying26 cM rfl rfl rfl rfl rfl rfl rfl ?_;intro gb bW;have Cp:=iR.ins ix (whole (cT [.agg #[.bool f6,.slice mT mU mV,.slice mW mX mY]]) 31) bW;refine eW Tryz.underlying26 cM rfl rfl Cp.own (fu _ _ _ _ _ _) rfl (B7 _ _ _ _ _ _ _) (by omega) (by omega) ?_;intro v7 H7 FT;have gW:=Cp.append ix (k:=[fn x9 0]) (by simp) FT (jn (ix _ _ _ _ (r8 _ (Heap.bC _ bW)) (show gI _ [_,_,_] _ from OD▸kY)) rfl);obtain⟨F7,c7,rfl⟩:=gW.form;have Ga:=gW.base;have hP7:=(hP.le pB.base).le Ga;have OE:=VP.le Ga;have hR7:=VM.le (a8 KX) Ga;refine vr 1 ?_;refine ab [1,4,6,7] ?_;refine bL .bn [0,1,2,3,4,5] follows (by kernel_rfl) ?_;refine vr 2 ?_;refine cI (vs:=[.bool h6,.slice U1 v1 y1,.slice U2 v2 y2]) af rfl rfl rfl rfl ((VN.le Ga).le (bG _ _)) rfl (by decide) VQ (by omega) (by omega) fun _=> ?_;refine aH rfl rfl (gW.call (afm (t:=⟨h6,U1,v1,y1,U2,v2,y2⟩) (M:=KX) hP7 OE JN gF (by decide) (Nat.le_refl _) hMq)) (fun _ _ h=>h.le fun _ _ h=>h.1) ?_
      rintro _ H8 VR;have VS:=gW.zm.mm ix VR fun _ _ h=>h.1;obtain⟨⟨_,P1,p1,d1,P2,p2,d2,rfl,VT⟩,_⟩:=VR;rw[←OD]at VT;have j9:=(hR7.le (a8 KX) VS.base).from (k:=1) (by omega);have iz:=VS.down (((hG.base.trans pB.base).trans Ga));obtain⟨ti,aj,ak⟩:=jU;refine aG (.inl ⟨rfl,rfl⟩) rfl rfl rfl aj ak rfl rfl rfl ?_;refine ab [1,4,6,7] ?_;refine aE rfl ?_;refine vr 1 ?_;refine pP (l:=1) (h:=x9.length) af rfl rfl (.inr ⟨_,_,rfl,rfl⟩) (.inl ⟨rfl,rfl⟩) (by omega) (by omega) ?_;refine vr 1 ?_;refine aA ?_;exact⟨(_,_,_,_),_,z9,(gC q (fn x9 0),a ++ [fn x9 0],x9.drop 1),by show (x9.drop 1).length<x.length;rw[List.length_drop];omega,au,⟨iz,VT,j9,aex JN (by omega),afq Cr,hm9,by show (x9.drop 1).length=(q.free.drop 1).length;rw[List.length_drop,List.length_drop,F9.len],afC,by show (a ++ [fn x9 0]).length+(q.free.drop 1).length=_;rw[List.length_append,List.length_drop,List.length_singleton];omega,by show (q.rows.map _).length=_;rw[List.length_map];exact OB,aeD hI.zE,⟨_,Ck⟩,hz9⟩⟩
    ·
     have VI:(x.length:Int)≤0:=by simpa using hb
     have iJ:x = []:=List.length_eq_zero_iff.1 (by omega);have gF:q.free = []:=List.length_eq_zero_iff.1 (by rw[←w9,iJ];rfl);have Jp:=hI.chain [] (aez gF vB)
     simp only[List.append_nil]at Jp
     refine bB ?_;refine ag [6] rfl ?_;refine ae ?_;refine vr 3 ?_;refine ab [2,3] ?_;refine aq ⟨.inr rfl,_,.tmp rfl (.tmp rfl (.nil)),?_⟩;exact⟨hG.le,_,_,_,0,rfl,.inr (.inr (.inr ⟨aP,je,rfl,a,Jp,(hG.sl ix).B8 hI.sz⟩))⟩
end Go.ay
