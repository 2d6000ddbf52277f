/- Walks over package lexico, part 5: Least. -/
import Derived.Test.YtfjncmjbhfdnpaaGreatA14
import Derived.Test.YtfjncmjbhfdnpaaGreatLx4
set_option linter.unusedVariables false
namespace Go.au
open Go.Proofs Num Lp
def sW(k:Nat):List Rat:=(List.replicate k 0).set 0 1
theorem UP(k:Nat):(sW k).length=k:=by simp[sW]
theorem Of{k:Nat}(hk:0<k)(j:Nat):fn (sW k) j=if j=0 then 1 else 0:=by
 unfold fn sW
 rw[List.getD,List.getElem?_set]
 by_cases h:0=j
 ·subst h;simp[hk]
 ·rw[if_neg h,if_neg (fun e=>h e.symm),List.getElem?_replicate];split <;> rfl
theorem UQ{k:Nat}(hk:0<k)(z:Nat→Rat):bK k (fn (sW k)) z=z 0:=by
 unfold bK
 rw[rP hk _ (fun j _ hj=>by rw[Of hk,if_neg hj];grind),Of hk,if_pos rfl];grind
structure Oa(p:Prg)(l:List Rat)(E f0:Nat):Prop where
 CU:In l p
 one:1∈l
 zero:0∈l
 bin:∃D,kK D f0 p
 bit:iy l p.rows.length p.rows.length≤E
 JH:f0+(p.free.length+1)*(E+2*aq.cT l+1)≤99999998
def abA(p:Prg)(H:Heap)(v:Value)(H':Heap):Prop:=Heap.le H H'∧∃A k c e,v = .tuple #[.slice A k c,.int .i64 e]∧
 ((¬p.Ok∧e=1∧A=none∧k=0∧c=0)∨(p.Ok∧(∃j:Nat,p.free[j]? = some true)∧e=7∧A=none∧k=0∧c=0)∨(p.Ok∧(¬∃j:Nat,p.free[j]? = some true)∧p.lp.rQ∧e=17∧A=none∧k=0∧c=0)∨
  (p.Ok∧(¬∃j:Nat,p.free[j]? = some true)∧e=0∧∃y,qg p y∧aR (bN KX) 3 H' (.slice A k c) y))
structure S7 where
 a:Value
 b:Value
 c:Value
 d:Value
 e:Value
 f:Value
 g:Value
structure al7(p:Prg)(l:List Rat)(E f0:Nat)(H H':Heap)(w:Value×Value×Value×Value)(ys:List Value)(a:Prg×List Rat×List Rat):Prop where
 JF:ea bZ 31 3 H H' w.1 a.2.1 ys
 prog:eH KX (rem H' (az w.1)) (.agg #[w.2.1,w.2.2.1]) a.1
 rest:aR (bN KX) 3 (rem H' (az w.1)) w.2.2.2 a.2.2
 ok:a.1.Ok
 free:¬∃j:Nat,a.1.free[j]? = some true
 meets:a.1.lp.dH 1 (fn a.2.2)
 len:a.2.2.length=a.1.free.length
 chain:∀y,qg a.1 y→qg p (a.2.1++y)
 qG:a.2.1.length+a.1.free.length=p.free.length
 rows:a.1.rows.length=p.rows.length
 CU:In l a.1
 bin:∃D,kK D (f0+a.2.1.length*(E+2*aq.cT l+1)) a.1
 sz:∀q,q∈a.2.1→aO q≤KX
theorem JE{p:Prg}(h:¬∃j:Nat,p.free[j]? = some true)(j:Nat):p.lp.free j=false:=by
 show p.free.getD j false=false
 rw[List.getD]
 cases hj:p.free[j]? with
 | none=>rfl
 | some b=>
  cases b with
  | false=>rfl
  | true=>exact absurd ⟨j,hj⟩ h
theorem al8{p:Prg}{v:Rat}(h:¬∃j:Nat,p.free[j]? = some true):¬∃j:Nat,(ie p v).free[j]? = some true:=fun⟨j,hj⟩=>by
 have hj:(p.free.drop 1)[j]? = some true:=hj
 rw[List.getElem?_drop]at hj
 exact h ⟨_,hj⟩
structure UR(D E f:Nat)(q:Prg)(x:List Rat):Prop where
 meets:q.lp.dH 1 (fn x)
 len:x.length=q.free.length
 min:∀z,q.lp.dH 1 z→fn x 0≤z 0
 com:∃D1,0<D1∧D1≤2^E∧aq.dV (D1*D) (2^(E+f)) (fn x 0)
theorem al9{D E f:Nat}{q:Prg}{x:List Rat}(hn:0<q.free.length)(hf:¬∃j:Nat,q.free[j]? = some true)(h:q.lp.dH 1 (fn x))(hl:x.length=q.free.length)(h0:fn x 0=0):UR D E f q x:=
 ⟨h,hl,fun z hz=>by rw[h0];exact hz.1 0 hn (JE hf 0),1,by omega,Nat.one_le_two_pow,by rw[h0];exact aq.Bw _ _⟩
theorem ama{D E f k:Nat}{q:Prg}{l:List Rat}{S:qE}(hn:0<q.free.length)(hl:In l q)(h1:1∈l)(h0:0∈l)(hb:kK D f q)(hk:Ex q k)(hE:iy l k q.lp.m≤E)(hc:rR q (sW q.free.length) S)(hs:S.status=1)(hL:Ce q (sW q.free.length) S):UR D E f q S.x:=by
 obtain⟨_,k2,k3⟩:=hc.Ll hs
 have JJ:=k2.cert.Lf k2.cZ.ok.valid
 refine⟨k2.cZ.meets,k2.cZ.len,fun z hz=> ?_,?_⟩
 ·have h9:=JJ.2 z hz
  have e1:bK q.lp.n (fn (sW q.free.length)) z=z 0:=UQ hn z
  have e2:bK q.lp.n (fn (sW q.free.length)) (fn S.x)=fn S.x 0:=UQ hn _
  rwa [e1,e2]at h9
 ·obtain⟨T,hT,_,e2⟩:=hL hs
  obtain⟨D1,g1,g2,_,g4⟩:=Y3 hl (fun j _=>by rw[Of hn];split;exact h1;exact h0) hb hk hT
  refine⟨D1,g1,Nat.le_trans g2 (Nat.pow_le_pow_right (by decide) hE),?_⟩
  have hx:fn S.x 0∈S.x:=aiN (by rw[k2.cZ.len];exact hn)
  rw[e2]at hx
  have h9:=(g4 _ hx).mono (Nat.pow_le_pow_right (n:=2) (by decide) (show iy l k q.lp.m+f≤E+f by omega))
  rwa [←e2]at h9
theorem amb{q:Prg}{S:qE}{x:Nat→Rat}(hn:0<q.free.length)(hf:¬∃j:Nat,q.free[j]? = some true)(hx:q.lp.dH 1 x)(hc:rR q (sW q.free.length) S):S.status=1:=by
 rcases hc.Lk with ⟨h,_⟩ | ⟨_,h,_⟩ | ⟨_,h,_⟩
 ·exact h
 ·exact absurd hx (h x)
 ·obtain⟨z,hz,bI⟩:=h.2 0
  have e1:bK q.lp.n (fn (sW q.free.length)) z=z 0:=UQ hn z
  rw[e1]at bI
  have:=hz.1 0 hn (JE hf 0)
  grind
theorem abT{D f:Nat}{q:Rat}(h1:0<D)(h2:D≤2^f)(h:aq.dV D (2^f) q):aO q≤f+1:=Eu h1 h h2 (Nat.le_refl _)
theorem abJ{H:Heap}{v:Value}{p:Prg}{l:List Rat}{N E f0:Nat}(hp:eH N H v p)(hN:N≤KX)(cK:p.Ok→Oa p l E f0):
  Fn Tryz.prog 24 #[v] H (abA p H):=by
 obtain⟨fv,gB,rfl,eI,fk⟩:=id hp
 obtain⟨Af,cf,xf,rfl,jk,jl⟩:=eI.one
 obtain⟨Ar,cr,xr,rfl,jL,fy,iE⟩:=id fk
 have hNK:N≤200000000:=hN;refine a7 (args:=[_]) Tryz.func24 rfl rfl Tryz.ntmps24 rfl rfl fun w0=> ?_;refine aj [0] rfl ?_;refine ag (bX rfl rfl (ab 2 rfl (ae [1] ?_)));refine ao (ag (ab 1 rfl (aE rfl rfl (R2 hp) ?_)));rintro _ H1 ⟨e1,b1,rfl,fE⟩;rw[e1];refine ab 1 rfl (ae [1,11] ?_);refine aC rfl (fun hb=> ?_) (fun hb=> ?_)
 ·
  have re:b1=false:=by simpa using hb
  subst re;refine ag (ab 2 rfl (ae [2,3] ?_));refine aD ⟨.inr rfl,_,.tmp rfl (.tmp rfl (.nil)),?_⟩;exact⟨.refl _,_,_,_,_,rfl,.inl ⟨fun h=>(by have h9:=fE.2 h;cases h9),rfl,rfl,rfl,rfl⟩⟩
 ·
  have pV:b1=true:=by simpa using hb
  have a8:=fE.1 pV;have jf:=a8.iu;have vD:=a8.rows;have hz:=cK a8;have JG:=hz.JH;have amc:=hz.bit;refine aA (aj [1] rfl ?_);refine ao (ag (ab 2 rfl (aE rfl rfl (alP eI (by omega)) ?_)));rintro _ H2 ⟨e2,b2,rfl,cD⟩;rw[e2];refine ae [1,14] ?_;refine aC rfl (fun hb=> ?_) (fun hb=> ?_)
  ·
   have CL:b2=true:=by simpa using hb
   refine ag (ab 2 rfl (ae [2,3] ?_));refine aD ⟨.inr rfl,_,.tmp rfl (.tmp rfl (.nil)),?_⟩;exact⟨.refl _,_,_,_,_,rfl,.inr (.inl ⟨a8,cD.1 CL,rfl,rfl,rfl,rfl⟩)⟩
  ·
   have Ju:b2=false:=by simpa using hb
   have ow:¬∃j:Nat,p.free[j]? = some true:=fun h=>by have h9:=cD.2 h;rw[Ju]at h9;cases h9
   obtain⟨D0,CS⟩:=hz.bin;have uK:Fits p (List.replicate p.free.length 0) (bits l p.rows.length p.lp.m f0):=Rr hz.CU (fun j _=>by rw[NW];exact hz.zero) CS (.inl (Nat.le_refl _));have hEE:1*(E+2*aq.cT l+1)≤(p.free.length+1)*(E+2*aq.cT l+1):=Nat.mul_le_mul_right _ (by omega)
   have UN:bits l p.rows.length p.lp.m f0≤99999998:=by
    have h9:iy l p.rows.length p.lp.m≤E:=amc
    unfold bits;omega
   refine aA (aj [1] rfl ?_);refine bO .bL [0,1,2,3,4,5,6,7,8,9,10,11] follows (by kernel_rfl) ?_;refine ab 4 rfl (gF Tryz.underlying26 bY rfl rfl rfl (by omega) (by omega) (by omega) (by omega) ?_);intro g hg;have hle:=Heap.bB ⟨cg [.bool false,.slice none 0 0,.slice none 0 0] ((p.free.length:Int).toNat*3),(p.free.length:Int).toNat*3,31,true⟩ hg;refine bm rfl rfl (Oc (N:=N) (hp.le hle) Ul (by omega) a8 (by rw[List.length_replicate]) uK UN) (fun _ _ h=>by first | exact h.le | exact h.1) ?_;rintro _ H3 ⟨gO,S,f3,B31,m31,e31,B32,m32,e32,B3x,e3x,B3d,e3d,B3r,e3r,rfl,mW,JT,vg,z8,CT,DZ⟩;have US:=hle.trans gO;refine ab 3 rfl (bt uM rfl ?_);obtain⟨ti,ak,al⟩:=pN;refine aH (.inl ⟨rfl,rfl⟩) rfl rfl rfl ak al rfl rfl rfl (ab 1 rfl (ae [1,4,5] ?_));refine ao (ag (ab 2 rfl (ae [1,4,5,25] ?_)));refine dU rfl (aA (aj [1,4] rfl ?_));refine ao (ag (ab 3 rfl (ae [1,4,29] ?_)));refine aC rfl (fun hb=> ?_) (fun hb=> ?_)
   ·
    have h1:¬S.status=1:=by simpa using hb
    have CG:p.lp.rQ:=by
     rcases mW.Lk with ⟨h9,_⟩ | ⟨_,h9,_⟩ | ⟨_,h9,_⟩
     ·exact absurd h9 h1
     ·exact h9
     ·obtain⟨z9,_,bI⟩:=h9.2 0
      have e9:bK p.lp.n (fn (List.replicate p.free.length 0)) z9=0:=mG fun j _=>by rw[NW];grind
      rw[e9]at bI;exact absurd bI (by decide)
    refine ag (ab 2 rfl (ae [2,3] ?_));refine aD ⟨.inr rfl,_,.tmp rfl (.tmp rfl (.nil)),?_⟩;exact⟨US,_,_,_,_,rfl,.inr (.inr (.inl ⟨a8,ow,CG,rfl,rfl,rfl,rfl⟩))⟩
   ·
    have h1:S.status=1:=by simpa using hb
    obtain⟨k1,k2,k3⟩:=mW.Ll h1;refine aA (aj [1,4] rfl ?_);refine ag (ab 1 rfl (ae [1,4,6] ?_));refine ag (ab 3 rfl (ae [1,4,6,7] ?_));refine ao (aF (oD (fun(w:Value×Value×Value×Value)(ys:List Value)(z:S7)(aa:Prg×List Rat×List Rat)=>aa.2.2.length) (fun(w:Value×Value×Value×Value)(ys:List Value)(z:S7)(aa:Prg×List Rat×List Rat)=>put (put (put (put (emp) 1 (.box [w.2.1,w.2.2.1])) 4 (.box [z.a,z.b,z.c,z.d,z.e,z.f,z.g])) 6 (.val (w.1))) 7 (.val (w.2.2.2))) (fun(w:Value×Value×Value×Value)(ys:List Value)(z:S7)(aa:Prg×List Rat×List Rat) H'=>al7 p l E f0 H H' w ys aa) (.slice none 0 0,.slice Af p.free.length cf,.slice Ar p.rows.length cr,.slice B3x S.x.length e3x) [] ⟨.int .i64 S.status,.bool f3,.slice B31 m31 e31,.slice B32 m32 e32,.slice B3x S.x.length e3x,.slice B3d S.jg.length e3d,.slice B3r S.ray.length e3r⟩ (p,[],S.x) (⟨(IK H3).down US,by rw[vI,tt];exact(hp.mono hN).le US,by rw[vI,tt];exact z8,a8,ow,k2.cZ.meets,k2.cZ.len,fun y h=>h,Nat.zero_add _,rfl,hz.CU,⟨D0,by rw[List.length_nil,Nat.zero_mul];exact CS⟩,(fun q h=>by cases h)⟩) ar ?_));rintro w ys z aa H4 hI;obtain⟨w1,wf,wr,wx⟩:=w;obtain⟨q,a,x⟩:=aa;have hG:=hI.JF;have hP:=hI.prog;have hR:=hI.rest;have Og:=hI.ok
    have Fj:=hI.free;have tj:=hI.meets;have Aa:=hI.len;have Qz:=hI.qG;have UT:=hI.rows
    simp only at hG hP hR Og Fj tj Aa Qz UT
    obtain⟨W,cw,rfl⟩:=hG.form;obtain⟨Qf,qf,Qr,qr,eQ⟩:=hP.aiP
    simp only[Value.agg.injEq,Array.mk.injEq,List.cons.injEq,and_true]at eQ
    obtain⟨rfl,rfl⟩:=eQ;obtain⟨Rx,rx,xx,rfl,me,nA,nB⟩:=id hR;refine ao (ag (ab 3 rfl (ae [1,4,6,7,34] ?_)));refine aC rfl (fun hb=> ?_) (fun hb=> ?_)
    ·
     have abU:(0:Int)<(x.length:Int):=by simpa using hb
     have je:0<x.length:=by omega
     obtain⟨u,LD⟩:∃u,x[0]? = some u:=⟨_,List.getElem?_eq_getElem je⟩;have hfu:fn x 0=u:=kT LD;obtain⟨g6,G1,n1,o1,G2,n2,o2,Jk,pB,JA⟩:=aR.qW nB LD;obtain⟨D,hD⟩:=hI.bin
     have hfE:f0+a.length*(E+2*aq.cT l+1)+(E+2*aq.cT l+1)≤99999998:=by
      have h9:a.length*(E+2*aq.cT l+1)+(E+2*aq.cT l+1)≤(p.free.length+1)*(E+2*aq.cT l+1):=by rw[←Nat.succ_mul];exact Nat.mul_le_mul_right _ (by omega)
      omega
     generalize hff:f0+a.length*(E+2*aq.cT l+1)=ff at hD hfE
     have ED:iy l q.rows.length q.lp.m≤E:=by have h9:iy l q.rows.length q.lp.m=iy l p.rows.length p.rows.length:=by rw[show q.lp.m=q.rows.length from rfl,UT]
                                             omega
     refine aA (aj [1,4,6,7] rfl ?_);refine aF (acX (fun(r9:Value)(z9:S7)(x9:List Rat)=>put (put (put (put (emp) 1 (.box [.slice Qf q.free.length qf,.slice Qr q.rows.length qr])) 4 (.box [z9.a,z9.b,z9.c,z9.d,z9.e,z9.f,z9.g])) 6 (.val (.slice W a.length cw))) 7 (.val (r9))) (fun(r9:Value)(z9:S7)(x9:List Rat) H'=>ea bZ 31 3 (rem H4 (az (.slice W a.length cw))) H' (.slice W a.length cw) a ys∧aR (bN KX) 3 (rem H' (az (.slice W a.length cw))) r9 x9∧UR D E ff q x9∧x9.length=x.length) ?_ ?_)
     ·
      refine ag (ab 1 rfl (ck (vs:=[.bool g6,.slice G1 n1 o1,.slice G2 n2 o2]) ah rfl rfl rfl rfl (nA.le (bE _ _)) rfl (by decide) JA (by omega) (by omega) fun _=>(aE rfl rfl (hG.call (Wk pB (by decide))) ?_)));rintro _ H5 mV;have jQ:=hG.od.kV dY mV fun _ _ h=>h.1;obtain⟨⟨_,rfl⟩,_⟩:=mV;have hP5:=hP.le jQ.base;have hR5:=hR.le (dI KX) jQ.base;refine ab 1 rfl (ae [1,4,6,7,39] ?_);refine aC rfl (fun hb=> ?_) (fun hb=> ?_)
      ·
       have abV:¬gZ u=0:=by simpa using hb
       refine ag (ab 2 rfl (gF Tryz.underlying26 bY rfl rfl rfl (by omega) (by omega) (by omega) (by omega) ?_));intro g hg;have fK:=jQ.ins dY ⟨cg [.bool false,.slice none 0 0,.slice none 0 0] ((x.length:Int).toNat*3),(x.length:Int).toNat*3,31,true⟩ hg;have KG:¬g∈az (.slice W a.length cw):=fun hm=>jQ.mQ g hm hg;refine ab 1 rfl (ae [1,4,6,8] ?_);refine ag (ab 1 rfl (aE rfl rfl (Fn.frame (gs:=g::az (.slice W a.length cw)) (fun q hq=>by rcases List.mem_cons.1 hq with rfl | hq;(rw[bD];simp);exact fK.mQ q hq) (Py (n:=1) (by decide) (by decide))) ?_));rintro _ H7 ⟨⟨pc,iS⟩,hs7⟩;obtain⟨f7,yh,yi,yj,yk,yl,ym,rfl⟩:=iS.form
       have Mq:H7 g=some ⟨cg [.bool false,.slice none 0 0,.slice none 0 0] ((x.length:Int).toNat*3),(x.length:Int).toNat*3,31,true⟩:=by rw[hs7 g (List.mem_cons_self ..),bD]
       obtain⟨ti,ak,al⟩:=aY;refine cQ (.inl rfl) ah rfl rfl rfl (by omega) (by rw[Int.toNat_natCast];exact abU) Mq rfl (by rw[ON,Nat.zero_add];exact Nat.le_refl _) ak al (fun _=>rfl) rfl rfl rfl fun _=> ?_;have amd:rem H7 (g::az (.slice W a.length cw))=rem (ins H7 g {(⟨cg [.bool false,.slice none 0 0,.slice none 0 0] ((x.length:Int).toNat*3),(x.length:Int).toNat*3,31,true⟩:Ent)with xs:=aL (cg [.bool false,.slice none 0 0,.slice none 0 0] ((x.length:Int).toNat*3)) (0+(0:Int).toNat*3) [.bool f7,.slice yh yi yj,.slice yk yl ym]}) (g::az (.slice W a.length cw)):=(cF _ (List.mem_cons_self ..)).symm
       have nZ:aR (bN KX) 3 (rem (ins H7 g {(⟨cg [.bool false,.slice none 0 0,.slice none 0 0] ((x.length:Int).toNat*3),(x.length:Int).toNat*3,31,true⟩:Ent)with xs:=aL (cg [.bool false,.slice none 0 0,.slice none 0 0] ((x.length:Int).toNat*3)) (0+(0:Int).toNat*3) [.bool f7,.slice yh yi yj,.slice yk yl ym]}) (az (.slice W a.length cw))) (.slice (some ⟨g,0,none⟩) (x.length:Int).toNat (x.length:Int).toNat) (sW x.length):=by
        rw[rM _ KG,Int.toNat_natCast];refine⟨_,x.length,_,by rw[UP],by rw[UP];exact Nat.le_refl _,dD _ _ _ _ _ _,?_⟩
        have Ja:bC (bN KX (ins (rem H7 (az (.slice W a.length cw))) g ⟨aL (cg [.bool false,.slice none 0 0,.slice none 0 0] (x.length*3)) (0*3) [.bool f7,.slice yh yi yj,.slice yk yl ym],x.length*3,31,true⟩)) 3 (aL (cg [.bool false,.slice none 0 0,.slice none 0 0] (x.length*3)) (0*3) [.bool f7,.slice yh yi yj,.slice yk yl ym]) ((List.replicate x.length (0:Rat)).set 0 1):=by
         refine bC.set (Gn (P:=bN KX _) rfl IJ x.length) (by rw[List.length_replicate];exact je) ?_ rfl;have h9:cn (rem H7 (g::az (.slice W a.length cw))) (.agg #[.bool f7,.slice yh yi yj,.slice yk yl ym]) 1 KX:=(bJ.raw (q:=(1:Int)) iS).mono (by show aO ((1:Int):Rat)≤200000000;exact Nat.le_trans (show aO ((1:Int):Rat)≤1 by decide) (by decide));refine cn.le h9 ?_;rw[←rM _ KG];have h8:=cF (H:=H7) (gs:=g::az (.slice W a.length cw)) ⟨aL (cg [.bool false,.slice none 0 0,.slice none 0 0] (x.length*3)) (0*3) [.bool f7,.slice yh yi yj,.slice yk yl ym],x.length*3,31,true⟩ (List.mem_cons_self ..);rw[←h8];exact Ba _ _ _
        exact Ja
       have UU:Heap.le (rem H5 (az (.slice W a.length cw))) (rem (ins H7 g {(⟨cg [.bool false,.slice none 0 0,.slice none 0 0] ((x.length:Int).toNat*3),(x.length:Int).toNat*3,31,true⟩:Ent)with xs:=aL (cg [.bool false,.slice none 0 0,.slice none 0 0] ((x.length:Int).toNat*3)) (0+(0:Int).toNat*3) [.bool f7,.slice yh yi yj,.slice yk yl ym]}) (az (.slice W a.length cw))):=by
        have h9:rem (ins H5 g ⟨cg [.bool false,.slice none 0 0,.slice none 0 0] ((x.length:Int).toNat*3),(x.length:Int).toNat*3,31,true⟩) (g::az (.slice W a.length cw))=rem H5 (az (.slice W a.length cw)):=rN _ hg
        have h8:Heap.le (rem H5 (az (.slice W a.length cw))) (rem H7 (g::az (.slice W a.length cw))):=by rw[←h9];exact pc
        refine h8.trans ?_;rw[amd];exact Ba _ _ _
       have gn:ea bZ 31 3 (rem H4 (az (.slice W a.length cw))) (ins H7 g {(⟨cg [.bool false,.slice none 0 0,.slice none 0 0] ((x.length:Int).toNat*3),(x.length:Int).toNat*3,31,true⟩:Ent)with xs:=aL (cg [.bool false,.slice none 0 0,.slice none 0 0] ((x.length:Int).toNat*3)) (0+(0:Int).toNat*3) [.bool f7,.slice yh yi yj,.slice yk yl ym]}) (.slice W a.length cw) a ys:=jQ.step dY (fun q9 fJ=>by have aZ:q9≠g:=fun e=>KG (e▸fJ);rw[a6 _ _ aZ,hs7 q9 (List.mem_cons_of_mem _ fJ),a6 _ _ aZ]) UU
       generalize ins H7 g {(⟨cg [.bool false,.slice none 0 0,.slice none 0 0] ((x.length:Int).toNat*3),(x.length:Int).toNat*3,31,true⟩:Ent)with xs:=aL (cg [.bool false,.slice none 0 0,.slice none 0 0] ((x.length:Int).toNat*3)) (0+(0:Int).toNat*3) [.bool f7,.slice yh yi yj,.slice yk yl ym]}=H8 at nZ UU gn⊢
       refine ae [1,4,6,8] ?_;refine ag (ab 2 rfl (aE rfl rfl (gn.call (Oc (N:=KX) (M:=bits l q.rows.length q.lp.m ff) (hP5.le UU) nZ (by decide) Og (by rw[UP,Aa]) (Rr hI.CU (fun j _=>by rw[Of je];split;exact hz.one;exact hz.zero) hD (.inl (Nat.le_refl _))) (by unfold bits;omega))) ?_));rintro _ H9 hF9;have ku:=gn.kV dY hF9 fun _ _ h=>h.1;obtain⟨⟨ix,S,f9,B91,m91,e91,B92,m92,e92,B9x,e9x,B9d,e9d,B9r,e9r,rfl,mW,JT,vg,z8,CT,DZ⟩,_⟩:=hF9;have dO:=amb (q:=q) (S:=S) (by omega) Fj tj (by rw[←Aa];exact mW);obtain⟨_,k9,_⟩:=mW.Ll dO;refine vr 3 ?_;obtain⟨ti,ak,al⟩:=pN;refine aH (.inl ⟨rfl,rfl⟩) rfl rfl rfl ak al rfl rfl rfl (ab 1 rfl (ae [1,4,5,6] ?_));refine ao (ag (ab 2 rfl (ae [1,4,5,6,53] ?_)));refine dU rfl (aA (aj [1,4,6] rfl ?_));refine ao (ag (ab 3 rfl (ae [1,4,6,57] ?_)));refine aC rfl (fun hb=> ?_) (fun hb=> ?_)
       ·
        have h9:¬S.status=1:=by simpa using hb
        exact absurd dO h9
       ·
        skip
        refine aA (aj [1,4,6] rfl ?_);refine aB rfl (ab 3 rfl (aw ?_));exact⟨_,⟨_,_,_,_,_,_,_⟩,S.x,ar,ku,z8,ama (by omega) hI.CU hz.one hz.zero hD (.inl (Nat.le_refl _)) ED (by rw[←Aa];exact mW) dO (by rw[←Aa];exact JT),by rw[k9.cZ.len,Aa]⟩
      ·
       have abV:gZ u=0:=by simpa using hb
       have hu0:u=0:=tH abV;refine aA ?_;exact⟨_,z,x,ar,jQ,hR5,al9 (by omega) Fj tj Aa (by rw[hfu];exact hu0),rfl⟩
     ·
      rintro r9 z9 x9 H9 ⟨ku,hR9,x8,Yw⟩;obtain⟨Rx9,rx9,xx9,rfl,anW,abW,ame⟩:=id hR9
      have amf:0<x9.length:=by omega
      obtain⟨u9,abX⟩:∃u,x9[0]? = some u:=⟨_,List.getElem?_eq_getElem amf⟩;have UW:fn x9 0=u9:=kT abX;obtain⟨h6,U1,v1,y1,U2,v2,y2,anX,abY,abZ⟩:=aR.qW ame abX;obtain⟨D1,d11,d12,d13⟩:=x8.com
      have jz:0<q.free.length:=by omega
      have Oh:kK (aq.fR l*(D1*D)) (f0+(a ++ [fn x9 0]).length*(E+2*aq.cT l+1)) (ie q (fn x9 0)):=by
       have h9:=aly hI.CU jz hD d11 d12 d13;rw[show f0+(a ++ [fn x9 0]).length*(E+2*aq.cT l+1)=2*aq.cT l+(E+ff)+1 by rw[List.length_append,List.length_singleton,Nat.succ_mul a.length];omega];exact h9
      have QS:0≤fn x9 0:=x8.meets.1 0 jz (JE Fj 0)
      have hm9:(ie q (fn x9 0)).lp.dH 1 (fn (x9.drop 1)):=by
       have h9:=(Uy (v:=fn x9 0) jz (fn x9) rfl (fun _=>QS)).2 x8.meets
       have e9:(fun j=>fn x9 (j+1))=fn (x9.drop 1):=by funext j;rw[Ux]
       rwa [e9]at h9
      have amg:∀y,qg (ie q (fn x9 0)) y→qg p ((a ++ [fn x9 0])++y):=fun y hy=>by
       rw[List.append_assoc];exact hI.chain _ (alv jz (JE Fj 0) QS x8.min hy)
      have amh:aO (fn x9 0)≤KX:=by
       have h9:=abT (f:=E+ff) (Nat.mul_pos d11 hD.pos) (by rw[Nat.pow_add];exact Nat.mul_le_mul d12 hD.le) d13
       show _≤200000000
       omega
      have zP:∀q',q'∈a ++ [fn x9 0]→aO q'≤KX:=fun q' h=>by
       rcases List.mem_append.1 h with h | h
       ·exact hI.sz q' h
       ·rw[List.mem_singleton]at h;rw[h];exact amh
      have hMq:∀r,r∈q.rows→aO (r.2.2-fn r.1 0*u9)≤KX:=fun r hr=>by
       obtain⟨i,hi⟩:=List.getElem?_of_mem hr;have m6:=(List.getElem?_eq_some_iff.1 hi).1;have h9:=Oh.b i (show i<(q.rows.map _).length by rw[List.length_map];exact m6)
       have e9:(ie q (fn x9 0)).lp.b i=r.2.2-fn r.1 0*u9:=by
        show ((ie q (fn x9 0)).row i).2.2=_
        rw[Ff m6,Prg.ly hi,UW]
       rw[e9]at h9;have h8:=abT Oh.pos Oh.le h9
       have e8:f0+(a ++ [fn x9 0]).length*(E+2*aq.cT l+1)=2*aq.cT l+(E+ff)+1:=by rw[List.length_append,List.length_singleton,Nat.succ_mul a.length];omega
       show _≤200000000
       omega
      have mf:a.length≤400:=by omega
      refine ag (ab 2 rfl (ck (vs:=[.bool h6,.slice U1 v1 y1,.slice U2 v2 y2]) ah rfl rfl rfl rfl (abW.le (bE _ _)) rfl (by decide) abZ (by omega) (by omega) fun _=>(aE rfl rfl (ku.call (Dx abY (by decide))) ?_)));rintro _ H6 iH;have fK:=ku.od.kV dY iH fun _ _ h=>h.1;obtain⟨⟨_,jO⟩,_⟩:=iH;obtain⟨f6,vT,vU,vV,vW,vX,vY,rfl⟩:=jO.form;refine cW Tryz.underlying26 bY rfl rfl rfl rfl rfl rfl rfl ?_;intro gb bx;have xX:=fK.ins dY (whole (cG [.agg #[.bool f6,.slice vT vU vV,.slice vW vX vY]]) 31) bx;refine dR Tryz.underlying26 bY rfl rfl xX.own (dD _ _ _ _ _ _) rfl (Cl _ _ _ _ _ _ _) (by omega) (by omega) ?_;intro v7 H7 uj;have iI:=xX.append dY (k:=[fn x9 0]) (by simp) uj (iP (dY _ _ _ _ (qB _ (Heap.bB _ bx)) (show bZ _ [_,_,_] _ from UW▸jO)) rfl);obtain⟨F7,c7,rfl⟩:=iI.form;have JU:=iI.base;have hP7:=(hP.le ku.base).le JU;have ami:=abY.le JU;have hR7:=hR9.le (dI KX) JU;refine ab 1 rfl (ae [1,4,6,7] ?_);refine bO .bL [0,1,2,3,4,5] follows (by kernel_rfl) ?_;refine ab 2 rfl (ck (vs:=[.bool h6,.slice U1 v1 y1,.slice U2 v2 y2]) ah rfl rfl rfl rfl ((abW.le JU).le (bE _ _)) rfl (by decide) abZ (by omega) (by omega) fun _=>(bm rfl rfl (iI.call (al5 (t:=⟨h6,U1,v1,y1,U2,v2,y2⟩) (M:=KX) hP7 ami Og jz (by decide) (Nat.le_refl _) hMq)) (fun _ _ h=>h.le fun _ _ h=>h.1) ?_))
      rintro _ H8 ui;have ab0:=iI.od.kV dY ui fun _ _ h=>h.1;obtain⟨⟨_,P1,p1,d1,P2,p2,d2,rfl,oe⟩,_⟩:=ui;rw[←UW]at oe;have jm:=(hR7.le (dI KX) ab0.base).from (k:=1) (by omega);have gn:=ab0.down (((hG.base.trans ku.base).trans JU));obtain⟨ti,ak,al⟩:=wk;refine aH (.inl ⟨rfl,rfl⟩) rfl rfl rfl ak al rfl rfl rfl (ae [1,4,6,7] ?_);refine aB rfl (ab 1 rfl (tk (l:=1) (h:=x9.length) ah rfl rfl (.inr ⟨_,_,rfl,rfl⟩) (.inl ⟨rfl,rfl⟩) (by omega) (by omega) (ab 1 rfl (aw ?_))));exact⟨(_,_,_,_),_,z9,(ie q (fn x9 0),a ++ [fn x9 0],x9.drop 1),by show (x9.drop 1).length<x.length;rw[List.length_drop];omega,ar,⟨gn,oe,jm,alr Og (by omega),al8 Fj,hm9,by show (x9.drop 1).length=(q.free.drop 1).length;rw[List.length_drop,List.length_drop,x8.len],amg,by show (a ++ [fn x9 0]).length+(q.free.drop 1).length=_;rw[List.length_append,List.length_drop,List.length_singleton];omega,by show (q.rows.map _).length=_;rw[List.length_map];exact UT,alx hI.CU,⟨_,Oh⟩,zP⟩⟩
    ·
     have abU:(x.length:Int)≤0:=by simpa using hb
     have je:x = []:=List.length_eq_zero_iff.1 (by omega);have jz:q.free = []:=List.length_eq_zero_iff.1 (by rw[←Aa,je];rfl);have N6:=hI.chain [] (alu jz tj)
     simp only[List.append_nil]at N6
     refine aV (aj [6] rfl ?_);refine ag (ab 3 rfl (ae [2,3] ?_));refine aD ⟨.inr rfl,_,.tmp rfl (.tmp rfl (.nil)),?_⟩;exact⟨hG.le,_,_,_,0,rfl,.inr (.inr (.inr ⟨a8,ow,rfl,a,N6,(hG.sl dY).zE hI.sz⟩))⟩
end Go.au
