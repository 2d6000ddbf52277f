/- Walks over package lexico, part 5: Least. -/
import Derived.Test.YtfjncmjbhfdnpaaGreatA14
import Derived.Test.YtfjncmjbhfdnpaaGreatLx4
set_option linter.unusedVariables false
namespace Go.aw
open Go.Proofs Num Lp
def s4(k:Nat):List Rat:=(List.replicate k 0).set 0 1
theorem UL(k:Nat):(s4 k).length=k:=by simp[s4]
theorem Oa{k:Nat}(hk:0<k)(j:Nat):fn (s4 k) j=if j=0 then 1 else 0:=by
 unfold fn s4
 rw[List.getD,List.getElem?_set]
 by_cases h:0=j
 ·subst h;simp[hk]
 ·rw[if_neg h,if_neg (fun e=>h e.symm),List.getElem?_replicate];split <;> rfl
theorem UM{k:Nat}(hk:0<k)(z:Nat→Rat):bN k (fn (s4 k)) z=z 0:=by
 unfold bN
 rw[r6 hk _ (fun j _ hj=>by rw[Oa hk,if_neg hj];grind),Oa hk,if_pos rfl];grind
structure abS(p:Prg)(l:List Rat)(E f0:Nat):Prop where
 C4:In l p
 one:1∈l
 zero:0∈l
 bin:∃D,kP D f0 p
 bit:iP l p.rows.length p.rows.length≤E
 JX:f0+(p.free.length+1)*(E+2*ar.dA l+1)≤99999998
def al2(p:Prg)(H:Heap)(v:Value)(H':Heap):Prop:=Heap.le H H'∧∃A k c e,v = .tuple #[.slice A k c,.int .i64 e]∧
 ((¬p.Ok∧e=1∧A=none∧k=0∧c=0)∨(p.Ok∧(∃j:Nat,p.free[j]? = some true)∧e=7∧A=none∧k=0∧c=0)∨(p.Ok∧(¬∃j:Nat,p.free[j]? = some true)∧p.lp.wX∧e=17∧A=none∧k=0∧c=0)∨
  (p.Ok∧(¬∃j:Nat,p.free[j]? = some true)∧e=0∧∃y,uG p y∧aR (bR KX) 3 H' (.slice A k c) y))
structure S7 where
 a:Value
 b:Value
 c:Value
 d:Value
 e:Value
 f:Value
 g:Value
structure al3(p:Prg)(l:List Rat)(E f0:Nat)(H H':Heap)(w:Value×Value×Value×Value)(ys:List Value)(a:Prg×List Rat×List Rat):Prop where
 JW:ed bX 31 3 H H' w.1 a.2.1 ys
 prog:ea KX (rem H' (aB w.1)) (.agg #[w.2.1,w.2.2.1]) a.1
 rest:aR (bR KX) 3 (rem H' (aB w.1)) w.2.2.2 a.2.2
 ok:a.1.Ok
 free:¬∃j:Nat,a.1.free[j]? = some true
 meets:a.1.lp.dY 1 (fn a.2.2)
 len:a.2.2.length=a.1.free.length
 chain:∀y,uG a.1 y→uG p (a.2.1++y)
 qS:a.2.1.length+a.1.free.length=p.free.length
 rows:a.1.rows.length=p.rows.length
 C4:In l a.1
 bin:∃D,kP D (f0+a.2.1.length*(E+2*ar.dA l+1)) a.1
 sz:∀q,q∈a.2.1→aP q≤KX
theorem Ob{p:Prg}(h:¬∃j:Nat,p.free[j]? = some true)(j:Nat):p.lp.free j=false:=by
 show p.free.getD j false=false
 rw[List.getD]
 cases hj:p.free[j]? with
 | none=>rfl
 | some b=>
  cases b with
  | false=>rfl
  | true=>exact absurd ⟨j,hj⟩ h
theorem al4{p:Prg}{v:Rat}(h:¬∃j:Nat,p.free[j]? = some true):¬∃j:Nat,(ix p v).free[j]? = some true:=fun⟨j,hj⟩=>by
 have hj:(p.free.drop 1)[j]? = some true:=hj
 rw[List.getElem?_drop]at hj
 exact h ⟨_,hj⟩
structure UN(D E f:Nat)(q:Prg)(x:List Rat):Prop where
 meets:q.lp.dY 1 (fn x)
 len:x.length=q.free.length
 min:∀z,q.lp.dY 1 z→fn x 0≤z 0
 com:∃D1,0<D1∧D1≤2^E∧ar.dZ (D1*D) (2^(E+f)) (fn x 0)
theorem al5{D E f:Nat}{q:Prg}{x:List Rat}(hn:0<q.free.length)(hf:¬∃j:Nat,q.free[j]? = some true)(h:q.lp.dY 1 (fn x))(hl:x.length=q.free.length)(h0:fn x 0=0):UN D E f q x:=
 ⟨h,hl,fun z hz=>by rw[h0];exact hz.1 0 hn (Ob hf 0),1,by omega,Nat.one_le_two_pow,by rw[h0];exact ar.BG _ _⟩
theorem al6{D E f k:Nat}{q:Prg}{l:List Rat}{S:qP}(hn:0<q.free.length)(hl:In l q)(h1:1∈l)(h0:0∈l)(hb:kP D f q)(hk:EG q k)(hE:iP l k q.lp.m≤E)(hc:r7 q (s4 q.free.length) S)(hs:S.status=1)(hL:Cm q (s4 q.free.length) S):UN D E f q S.x:=by
 obtain⟨_,k2,k3⟩:=hc.Ls hs
 have JY:=k2.cert.Lm k2.dd.ok.valid
 refine⟨k2.dd.meets,k2.dd.len,fun z hz=> ?_,?_⟩
 ·have h9:=JY.2 z hz
  have e1:bN q.lp.n (fn (s4 q.free.length)) z=z 0:=UM hn z
  have e2:bN q.lp.n (fn (s4 q.free.length)) (fn S.x)=fn S.x 0:=UM hn _
  rwa [e1,e2]at h9
 ·obtain⟨T,hT,_,e2⟩:=hL hs
  obtain⟨D1,g1,g2,_,g4⟩:=Y0 hl (fun j _=>by rw[Oa hn];split;exact h1;exact h0) hb hk hT
  refine⟨D1,g1,Nat.le_trans g2 (Nat.pow_le_pow_right (by decide) hE),?_⟩
  have hx:fn S.x 0∈S.x:=aiN (by rw[k2.dd.len];exact hn)
  rw[e2]at hx
  have h9:=(g4 _ hx).mono (Nat.pow_le_pow_right (n:=2) (by decide) (show iP l k q.lp.m+f≤E+f by omega))
  rwa [←e2]at h9
theorem al7{q:Prg}{S:qP}{x:Nat→Rat}(hn:0<q.free.length)(hf:¬∃j:Nat,q.free[j]? = some true)(hx:q.lp.dY 1 x)(hc:r7 q (s4 q.free.length) S):S.status=1:=by
 rcases hc.GO with ⟨h,_⟩ | ⟨_,h,_⟩ | ⟨_,h,_⟩
 ·exact h
 ·exact absurd hx (h x)
 ·obtain⟨z,hz,bL⟩:=h.2 0
  have e1:bN q.lp.n (fn (s4 q.free.length)) z=z 0:=UM hn z
  rw[e1]at bL
  have:=hz.1 0 hn (Ob hf 0)
  grind
theorem abT{D f:Nat}{q:Rat}(h1:0<D)(h2:D≤2^f)(h:ar.dZ D (2^f) q):aP q≤f+1:=ED h1 h h2 (Nat.le_refl _)
theorem alF{H:Heap}{v:Value}{p:Prg}{l:List Rat}{N E f0:Nat}(hp:ea N H v p)(hN:N≤KX)(cQ:p.Ok→abS p l E f0):
  Fn Tryz.prog 24 #[v] H (al2 p H):=by
 obtain⟨fv,fL,rfl,dO,eo⟩:=id hp
 obtain⟨Af,cf,xf,rfl,iv,gS⟩:=dO.one
 obtain⟨Ar,cr,xr,rfl,iM,eJ,gE⟩:=id eo
 have hNK:N≤200000000:=hN;refine aZ (args:=[_]) Tryz.func24 rfl rfl Tryz.ntmps24 rfl rfl fun w0=> ?_;refine aj [0] rfl ?_;refine ag (bW rfl rfl (ab 2 rfl (ae [1] ?_)));refine aq (ag (ab 1 rfl (aF rfl rfl (RX hp) ?_)));rintro _ H1 ⟨e1,b1,rfl,fa⟩;rw[e1];refine ab 1 rfl (ae [1,11] ?_);refine aD rfl (fun hb=> ?_) (fun hb=> ?_)
 ·
  have pO:b1=false:=by simpa using hb
  subst pO;refine ag (ab 2 rfl (ae [2,3] ?_));refine aE ⟨.inr rfl,_,.tmp rfl (.tmp rfl (.nil)),?_⟩;exact⟨.refl _,_,_,_,_,rfl,.inl ⟨fun h=>(by have h9:=fa.2 h;cases h9),rfl,rfl,rfl,rfl⟩⟩
 ·
  have qd:b1=true:=by simpa using hb
  have bx:=fa.1 qd;have jF:=bx.iG;have tZ:=bx.rows;have hz:=cQ bx;have NV:=hz.JX;have al8:=hz.bit;refine aA (aj [1] rfl ?_);refine aq (ag (ab 2 rfl (aF rfl rfl (alM dO (by omega)) ?_)));rintro _ H2 ⟨e2,b2,rfl,bU⟩;rw[e2];refine ae [1,14] ?_;refine aD rfl (fun hb=> ?_) (fun hb=> ?_)
  ·
   have yh:b2=true:=by simpa using hb
   refine ag (ab 2 rfl (ae [2,3] ?_));refine aE ⟨.inr rfl,_,.tmp rfl (.tmp rfl (.nil)),?_⟩;exact⟨.refl _,_,_,_,_,rfl,.inr (.inl ⟨bx,bU.1 yh,rfl,rfl,rfl,rfl⟩)⟩
  ·
   have JK:b2=false:=by simpa using hb
   have oM:¬∃j:Nat,p.free[j]? = some true:=fun h=>by have h9:=bU.2 h;rw[JK]at h9;cases h9
   obtain⟨D0,C2⟩:=hz.bin;have uU:Fits p (List.replicate p.free.length 0) (bits l p.rows.length p.lp.m f0):=Rk hz.C4 (fun j _=>by rw[NX];exact hz.zero) C2 (.inl (Nat.le_refl _));have hEE:1*(E+2*ar.dA l+1)≤(p.free.length+1)*(E+2*ar.dA l+1):=Nat.mul_le_mul_right _ (by omega)
   have UJ:bits l p.rows.length p.lp.m f0≤99999998:=by
    have h9:iP l p.rows.length p.lp.m≤E:=al8
    unfold bits;omega
   refine aA (aj [1] rfl ?_);refine bP .bJ [0,1,2,3,4,5,6,7,8,9,10,11] follows (by kernel_rfl) ?_;refine ab 4 rfl (gJ Tryz.underlying26 bZ rfl rfl rfl (by omega) (by omega) (by omega) (by omega) ?_);intro g hg;have hle:=Heap.bC ⟨cD [.bool false,.slice none 0 0,.slice none 0 0] ((p.free.length:Int).toNat*3),(p.free.length:Int).toNat*3,31,true⟩ hg;refine a8 rfl rfl (N7 (N:=N) (hp.le hle) Us (by omega) bx (by rw[List.length_replicate]) uU UJ) (fun _ _ h=>by first | exact h.le | exact h.1) ?_;rintro _ H3 ⟨gN,S,f3,B31,m31,e31,B32,m32,e32,B3x,e3x,B3d,e3d,B3r,e3r,rfl,kS,J4,tM,Al,C3,Ee⟩;have UO:=hle.trans gN;refine ab 3 rfl (bn uV rfl ?_);obtain⟨ti,ak,al⟩:=p6;refine aI (.inl ⟨rfl,rfl⟩) rfl rfl rfl ak al rfl rfl rfl (ab 1 rfl (ae [1,4,5] ?_));refine aq (ag (ab 2 rfl (ae [1,4,5,25] ?_)));refine dR rfl (aA (aj [1,4] rfl ?_));refine aq (ag (ab 3 rfl (ae [1,4,29] ?_)));refine aD rfl (fun hb=> ?_) (fun hb=> ?_)
   ·
    have h1:¬S.status=1:=by simpa using hb
    have JG:p.lp.wX:=by
     rcases kS.GO with ⟨h9,_⟩ | ⟨_,h9,_⟩ | ⟨_,h9,_⟩
     ·exact absurd h9 h1
     ·exact h9
     ·obtain⟨z9,_,bL⟩:=h9.2 0
      have e9:bN p.lp.n (fn (List.replicate p.free.length 0)) z9=0:=mP fun j _=>by rw[NX];grind
      rw[e9]at bL;exact absurd bL (by decide)
    refine ag (ab 2 rfl (ae [2,3] ?_));refine aE ⟨.inr rfl,_,.tmp rfl (.tmp rfl (.nil)),?_⟩;exact⟨UO,_,_,_,_,rfl,.inr (.inr (.inl ⟨bx,oM,JG,rfl,rfl,rfl,rfl⟩))⟩
   ·
    have h1:S.status=1:=by simpa using hb
    obtain⟨k1,k2,k3⟩:=kS.Ls h1;refine aA (aj [1,4] rfl ?_);refine ag (ab 1 rfl (ae [1,4,6] ?_));refine ag (ab 3 rfl (ae [1,4,6,7] ?_));refine aq (aG (oU (fun(w:Value×Value×Value×Value)(ys:List Value)(z:S7)(aa:Prg×List Rat×List Rat)=>aa.2.2.length) (fun(w:Value×Value×Value×Value)(ys:List Value)(z:S7)(aa:Prg×List Rat×List Rat)=>put (put (put (put (emp) 1 (.box [w.2.1,w.2.2.1])) 4 (.box [z.a,z.b,z.c,z.d,z.e,z.f,z.g])) 6 (.val (w.1))) 7 (.val (w.2.2.2))) (fun(w:Value×Value×Value×Value)(ys:List Value)(z:S7)(aa:Prg×List Rat×List Rat) H'=>al3 p l E f0 H H' w ys aa) (.slice none 0 0,.slice Af p.free.length cf,.slice Ar p.rows.length cr,.slice B3x S.x.length e3x) [] ⟨.int .i64 S.status,.bool f3,.slice B31 m31 e31,.slice B32 m32 e32,.slice B3x S.x.length e3x,.slice B3d S.jq.length e3d,.slice B3r S.ray.length e3r⟩ (p,[],S.x) (⟨(EX H3).down UO,by rw[xM,tz];exact(hp.mono hN).le UO,by rw[xM,tz];exact Al,bx,oM,k2.dd.meets,k2.dd.len,fun y h=>h,Nat.zero_add _,rfl,hz.C4,⟨D0,by rw[List.length_nil,Nat.zero_mul];exact C2⟩,(fun q h=>by cases h)⟩) au ?_));rintro w ys z aa H4 hI;obtain⟨w1,wf,wr,wx⟩:=w;obtain⟨q,a,x⟩:=aa;have hG:=hI.JW;have hP:=hI.prog;have hR:=hI.rest;have Oc:=hI.ok
    have Fw:=hI.free;have tr:=hI.meets;have An:=hI.len;have Qt:=hI.qS;have UP:=hI.rows
    simp only at hG hP hR Oc Fw tr An Qt UP
    obtain⟨W,cw,rfl⟩:=hG.form;obtain⟨Qf,qf,Qr,qr,eQ⟩:=hP.aiP
    simp only[Value.agg.injEq,Array.mk.injEq,List.cons.injEq,and_true]at eQ
    obtain⟨rfl,rfl⟩:=eQ;obtain⟨Rx,rx,xx,rfl,kC,nE,nF⟩:=id hR;refine aq (ag (ab 3 rfl (ae [1,4,6,7,34] ?_)));refine aD rfl (fun hb=> ?_) (fun hb=> ?_)
    ·
     have abU:(0:Int)<(x.length:Int):=by simpa using hb
     have jo:0<x.length:=by omega
     obtain⟨u,LJ⟩:∃u,x[0]? = some u:=⟨_,List.getElem?_eq_getElem jo⟩;have hfu:fn x 0=u:=mb LJ;obtain⟨g6,G1,n1,o1,G2,n2,o2,Jz,pN,JP⟩:=aR.pI nF LJ;obtain⟨D,hD⟩:=hI.bin
     have hfE:f0+a.length*(E+2*ar.dA l+1)+(E+2*ar.dA l+1)≤99999998:=by
      have h9:a.length*(E+2*ar.dA l+1)+(E+2*ar.dA l+1)≤(p.free.length+1)*(E+2*ar.dA l+1):=by rw[←Nat.succ_mul];exact Nat.mul_le_mul_right _ (by omega)
      omega
     generalize hff:f0+a.length*(E+2*ar.dA l+1)=ff at hD hfE
     have EL:iP l q.rows.length q.lp.m≤E:=by have h9:iP l q.rows.length q.lp.m=iP l p.rows.length p.rows.length:=by rw[show q.lp.m=q.rows.length from rfl,UP]
                                             omega
     refine aA (aj [1,4,6,7] rfl ?_);refine aG (acY (fun(r9:Value)(z9:S7)(x9:List Rat)=>put (put (put (put (emp) 1 (.box [.slice Qf q.free.length qf,.slice Qr q.rows.length qr])) 4 (.box [z9.a,z9.b,z9.c,z9.d,z9.e,z9.f,z9.g])) 6 (.val (.slice W a.length cw))) 7 (.val (r9))) (fun(r9:Value)(z9:S7)(x9:List Rat) H'=>ed bX 31 3 (rem H4 (aB (.slice W a.length cw))) H' (.slice W a.length cw) a ys∧aR (bR KX) 3 (rem H' (aB (.slice W a.length cw))) r9 x9∧UN D E ff q x9∧x9.length=x.length) ?_ ?_)
     ·
      refine ag (ab 1 rfl (ck (vs:=[.bool g6,.slice G1 n1 o1,.slice G2 n2 o2]) ah rfl rfl rfl rfl (nE.le (bt _ _)) rfl (by decide) JP (by omega) (by omega) fun _=>(aF rfl rfl (hG.call (Wg pN (by decide))) ?_)));rintro _ H5 kR;have gV:=hG.pJ.jK dL kR fun _ _ h=>h.1;obtain⟨⟨_,rfl⟩,_⟩:=kR;have hP5:=hP.le gV.base;have hR5:=hR.le (dz KX) gV.base;refine ab 1 rfl (ae [1,4,6,7,39] ?_);refine aD rfl (fun hb=> ?_) (fun hb=> ?_)
      ·
       have abV:¬ik u=0:=by simpa using hb
       refine ag (ab 2 rfl (gJ Tryz.underlying26 bZ rfl rfl rfl (by omega) (by omega) (by omega) (by omega) ?_));intro g hg;have fC:=gV.ins dL ⟨cD [.bool false,.slice none 0 0,.slice none 0 0] ((x.length:Int).toNat*3),(x.length:Int).toNat*3,31,true⟩ hg;have KO:¬g∈aB (.slice W a.length cw):=fun hm=>gV.nS g hm hg;refine ab 1 rfl (ae [1,4,6,8] ?_);refine ag (ab 1 rfl (aF rfl rfl (Fn.frame (gs:=g::aB (.slice W a.length cw)) (fun q hq=>by rcases List.mem_cons.1 hq with rfl | hq;(rw[bF];simp);exact fC.nS q hq) (Pu (n:=1) (by decide) (by decide))) ?_));rintro _ H7 ⟨⟨pC,jb⟩,JV⟩;obtain⟨f7,yn,yo,yp,yq,yr,yt,rfl⟩:=jb.form
       have Mw:H7 g=some ⟨cD [.bool false,.slice none 0 0,.slice none 0 0] ((x.length:Int).toNat*3),(x.length:Int).toNat*3,31,true⟩:=by rw[JV g (List.mem_cons_self ..),bF]
       obtain⟨ti,ak,al⟩:=a6;refine cV (.inl rfl) ah rfl rfl rfl (by omega) (by rw[Int.toNat_natCast];exact abU) Mw rfl (by rw[OJ,Nat.zero_add];exact Nat.le_refl _) ak al (fun _=>rfl) rfl rfl rfl fun _=> ?_;have al9:rem H7 (g::aB (.slice W a.length cw))=rem (ins H7 g {(⟨cD [.bool false,.slice none 0 0,.slice none 0 0] ((x.length:Int).toNat*3),(x.length:Int).toNat*3,31,true⟩:Ent)with xs:=aM (cD [.bool false,.slice none 0 0,.slice none 0 0] ((x.length:Int).toNat*3)) (0+(0:Int).toNat*3) [.bool f7,.slice yn yo yp,.slice yq yr yt]}) (g::aB (.slice W a.length cw)):=(cK _ (List.mem_cons_self ..)).symm
       have oy:aR (bR KX) 3 (rem (ins H7 g {(⟨cD [.bool false,.slice none 0 0,.slice none 0 0] ((x.length:Int).toNat*3),(x.length:Int).toNat*3,31,true⟩:Ent)with xs:=aM (cD [.bool false,.slice none 0 0,.slice none 0 0] ((x.length:Int).toNat*3)) (0+(0:Int).toNat*3) [.bool f7,.slice yn yo yp,.slice yq yr yt]}) (aB (.slice W a.length cw))) (.slice (some ⟨g,0,none⟩) (x.length:Int).toNat (x.length:Int).toNat) (s4 x.length):=by
        rw[rY _ KO,Int.toNat_natCast];refine⟨_,x.length,_,by rw[UL],by rw[UL];exact Nat.le_refl _,dE _ _ _ _ _ _,?_⟩
        have Jp:bE (bR KX (ins (rem H7 (aB (.slice W a.length cw))) g ⟨aM (cD [.bool false,.slice none 0 0,.slice none 0 0] (x.length*3)) (0*3) [.bool f7,.slice yn yo yp,.slice yq yr yt],x.length*3,31,true⟩)) 3 (aM (cD [.bool false,.slice none 0 0,.slice none 0 0] (x.length*3)) (0*3) [.bool f7,.slice yn yo yp,.slice yq yr yt]) ((List.replicate x.length (0:Rat)).set 0 1):=by
         refine bE.set (Pz (P:=bR KX _) rfl Sn x.length) (by rw[List.length_replicate];exact jo) ?_ rfl;have h9:ct (rem H7 (g::aB (.slice W a.length cw))) (.agg #[.bool f7,.slice yn yo yp,.slice yq yr yt]) 1 KX:=(bK.raw (q:=(1:Int)) jb).mono (by show aP ((1:Int):Rat)≤200000000;exact Nat.le_trans (show aP ((1:Int):Rat)≤1 by decide) (by decide));refine ct.le h9 ?_;rw[←rY _ KO];have h8:=cK (H:=H7) (gs:=g::aB (.slice W a.length cw)) ⟨aM (cD [.bool false,.slice none 0 0,.slice none 0 0] (x.length*3)) (0*3) [.bool f7,.slice yn yo yp,.slice yq yr yt],x.length*3,31,true⟩ (List.mem_cons_self ..);rw[←h8];exact GB _ _ _
        exact Jp
       have UQ:Heap.le (rem H5 (aB (.slice W a.length cw))) (rem (ins H7 g {(⟨cD [.bool false,.slice none 0 0,.slice none 0 0] ((x.length:Int).toNat*3),(x.length:Int).toNat*3,31,true⟩:Ent)with xs:=aM (cD [.bool false,.slice none 0 0,.slice none 0 0] ((x.length:Int).toNat*3)) (0+(0:Int).toNat*3) [.bool f7,.slice yn yo yp,.slice yq yr yt]}) (aB (.slice W a.length cw))):=by
        have h9:rem (ins H5 g ⟨cD [.bool false,.slice none 0 0,.slice none 0 0] ((x.length:Int).toNat*3),(x.length:Int).toNat*3,31,true⟩) (g::aB (.slice W a.length cw))=rem H5 (aB (.slice W a.length cw)):=tA _ hg
        have h8:Heap.le (rem H5 (aB (.slice W a.length cw))) (rem H7 (g::aB (.slice W a.length cw))):=by rw[←h9];exact pC
        refine h8.trans ?_;rw[al9];exact GB _ _ _
       have fV:ed bX 31 3 (rem H4 (aB (.slice W a.length cw))) (ins H7 g {(⟨cD [.bool false,.slice none 0 0,.slice none 0 0] ((x.length:Int).toNat*3),(x.length:Int).toNat*3,31,true⟩:Ent)with xs:=aM (cD [.bool false,.slice none 0 0,.slice none 0 0] ((x.length:Int).toNat*3)) (0+(0:Int).toNat*3) [.bool f7,.slice yn yo yp,.slice yq yr yt]}) (.slice W a.length cw) a ys:=gV.step dL (fun q9 fK=>by have a7:q9≠g:=fun e=>KO (e▸fK);rw[bg _ _ a7,JV q9 (List.mem_cons_of_mem _ fK),bg _ _ a7]) UQ
       generalize ins H7 g {(⟨cD [.bool false,.slice none 0 0,.slice none 0 0] ((x.length:Int).toNat*3),(x.length:Int).toNat*3,31,true⟩:Ent)with xs:=aM (cD [.bool false,.slice none 0 0,.slice none 0 0] ((x.length:Int).toNat*3)) (0+(0:Int).toNat*3) [.bool f7,.slice yn yo yp,.slice yq yr yt]}=H8 at oy UQ fV⊢
       refine ae [1,4,6,8] ?_;refine ag (ab 2 rfl (aF rfl rfl (fV.call (N7 (N:=KX) (M:=bits l q.rows.length q.lp.m ff) (hP5.le UQ) oy (by decide) Oc (by rw[UL,An]) (Rk hI.C4 (fun j _=>by rw[Oa jo];split;exact hz.one;exact hz.zero) hD (.inl (Nat.le_refl _))) (by unfold bits;omega))) ?_));rintro _ H9 hF9;have kB:=fV.jK dL hF9 fun _ _ h=>h.1;obtain⟨⟨iJ,S,f9,B91,m91,e91,B92,m92,e92,B9x,e9x,B9d,e9d,B9r,e9r,rfl,kS,J4,tM,Al,C3,Ee⟩,_⟩:=hF9;have dS:=al7 (q:=q) (S:=S) (by omega) Fw tr (by rw[←An];exact kS);obtain⟨_,k9,_⟩:=kS.Ls dS;refine vr 3 ?_;obtain⟨ti,ak,al⟩:=p6;refine aI (.inl ⟨rfl,rfl⟩) rfl rfl rfl ak al rfl rfl rfl (ab 1 rfl (ae [1,4,5,6] ?_));refine aq (ag (ab 2 rfl (ae [1,4,5,6,53] ?_)));refine dR rfl (aA (aj [1,4,6] rfl ?_));refine aq (ag (ab 3 rfl (ae [1,4,6,57] ?_)));refine aD rfl (fun hb=> ?_) (fun hb=> ?_)
       ·
        have h9:¬S.status=1:=by simpa using hb
        exact absurd dS h9
       ·
        skip
        refine aA (aj [1,4,6] rfl ?_);refine aC rfl (ab 3 rfl (az ?_));exact⟨_,⟨_,_,_,_,_,_,_⟩,S.x,au,kB,Al,al6 (by omega) hI.C4 hz.one hz.zero hD (.inl (Nat.le_refl _)) EL (by rw[←An];exact kS) dS (by rw[←An];exact J4),by rw[k9.dd.len,An]⟩
      ·
       have abV:ik u=0:=by simpa using hb
       have hu0:u=0:=tO abV;refine aA ?_;exact⟨_,z,x,au,gV,hR5,al5 (by omega) Fw tr An (by rw[hfu];exact hu0),rfl⟩
     ·
      rintro r9 z9 x9 H9 ⟨kB,hR9,ye,Yt⟩;obtain⟨Rx9,rx9,xx9,rfl,anR,abW,ama⟩:=id hR9
      have amb:0<x9.length:=by omega
      obtain⟨u9,abX⟩:∃u,x9[0]? = some u:=⟨_,List.getElem?_eq_getElem amb⟩;have UR:fn x9 0=u9:=mb abX;obtain⟨h6,U1,v1,y1,U2,v2,y2,anS,abY,abZ⟩:=aR.pI ama abX;obtain⟨D1,d11,d12,d13⟩:=ye.com
      have jD:0<q.free.length:=by omega
      have Od:kP (ar.fS l*(D1*D)) (f0+(a ++ [fn x9 0]).length*(E+2*ar.dA l+1)) (ix q (fn x9 0)):=by
       have h9:=ald hI.C4 jD hD d11 d12 d13;rw[show f0+(a ++ [fn x9 0]).length*(E+2*ar.dA l+1)=2*ar.dA l+(E+ff)+1 by rw[List.length_append,List.length_singleton,Nat.succ_mul a.length];omega];exact h9
      have QM:0≤fn x9 0:=ye.meets.1 0 jD (Ob Fw 0)
      have hm9:(ix q (fn x9 0)).lp.dY 1 (fn (x9.drop 1)):=by
       have h9:=(Ul (v:=fn x9 0) jD (fn x9) rfl (fun _=>QM)).2 ye.meets
       have e9:(fun j=>fn x9 (j+1))=fn (x9.drop 1):=by funext j;rw[Uk]
       rwa [e9]at h9
      have amc:∀y,uG (ix q (fn x9 0)) y→uG p ((a ++ [fn x9 0])++y):=fun y hy=>by
       rw[List.append_assoc];exact hI.chain _ (ak9 jD (Ob Fw 0) QM ye.min hy)
      have amd:aP (fn x9 0)≤KX:=by
       have h9:=abT (f:=E+ff) (Nat.mul_pos d11 hD.pos) (by rw[Nat.pow_add];exact Nat.mul_le_mul d12 hD.le) d13
       show _≤200000000
       omega
      have zY:∀q',q'∈a ++ [fn x9 0]→aP q'≤KX:=fun q' h=>by
       rcases List.mem_append.1 h with h | h
       ·exact hI.sz q' h
       ·rw[List.mem_singleton]at h;rw[h];exact amd
      have hMq:∀r,r∈q.rows→aP (r.2.2-fn r.1 0*u9)≤KX:=fun r hr=>by
       obtain⟨i,hi⟩:=List.getElem?_of_mem hr;have lZ:=(List.getElem?_eq_some_iff.1 hi).1;have h9:=Od.b i (show i<(q.rows.map _).length by rw[List.length_map];exact lZ)
       have e9:(ix q (fn x9 0)).lp.b i=r.2.2-fn r.1 0*u9:=by
        show ((ix q (fn x9 0)).row i).2.2=_
        rw[Fs lZ,Prg.mc hi,UR]
       rw[e9]at h9;have h8:=abT Od.pos Od.le h9
       have e8:f0+(a ++ [fn x9 0]).length*(E+2*ar.dA l+1)=2*ar.dA l+(E+ff)+1:=by rw[List.length_append,List.length_singleton,Nat.succ_mul a.length];omega
       show _≤200000000
       omega
      have mu:a.length≤400:=by omega
      refine ag (ab 2 rfl (ck (vs:=[.bool h6,.slice U1 v1 y1,.slice U2 v2 y2]) ah rfl rfl rfl rfl (abW.le (bt _ _)) rfl (by decide) abZ (by omega) (by omega) fun _=>(aF rfl rfl (kB.call (DG abY (by decide))) ?_)));rintro _ H6 gw;have fC:=kB.pJ.jK dL gw fun _ _ h=>h.1;obtain⟨⟨_,iu⟩,_⟩:=gw;obtain⟨f6,oE,oF,oG,oH,oI,oJ,rfl⟩:=iu.form;refine cR Tryz.underlying26 bZ rfl rfl rfl rfl rfl rfl rfl ?_;intro gb bo;have ya:=fC.ins dL (whole (cF [.agg #[.bool f6,.slice oE oF oG,.slice oH oI oJ]]) 31) bo;refine dK Tryz.underlying26 bZ rfl rfl ya.own (dE _ _ _ _ _ _) rfl (zM _ _ _ _ _ _ _) (by omega) (by omega) ?_;intro v7 H7 qx;have fW:=ya.append dL (k:=[fn x9 0]) (by simp) qx (iE (dL _ _ _ _ (og _ (Heap.bC _ bo)) (show bX _ [_,_,_] _ from UR▸iu)) rfl);obtain⟨F7,c7,rfl⟩:=fW.form;have J5:=fW.base;have hP7:=(hP.le kB.base).le J5;have ame:=abY.le J5;have hR7:=hR9.le (dz KX) J5;refine ab 1 rfl (ae [1,4,6,7] ?_);refine bP .bJ [0,1,2,3,4,5] follows (by kernel_rfl) ?_;refine ab 2 rfl (ck (vs:=[.bool h6,.slice U1 v1 y1,.slice U2 v2 y2]) ah rfl rfl rfl rfl ((abW.le J5).le (bt _ _)) rfl (by decide) abZ (by omega) (by omega) fun _=>(a8 rfl rfl (fW.call (al0 (t:=⟨h6,U1,v1,y1,U2,v2,y2⟩) (M:=KX) hP7 ame Oc jD (by decide) (Nat.le_refl _) hMq)) (fun _ _ h=>h.le fun _ _ h=>h.1) ?_))
      rintro _ H8 uA;have ab0:=fW.pJ.jK dL uA fun _ _ h=>h.1;obtain⟨⟨_,P1,p1,d1,P2,p2,d2,rfl,oB⟩,_⟩:=uA;rw[←UR]at oB;have jt:=(hR7.le (dz KX) ab0.base).from (k:=1) (by omega);have fV:=ab0.down (((hG.base.trans kB.base).trans J5));obtain⟨ti,ak,al⟩:=p5;refine aI (.inl ⟨rfl,rfl⟩) rfl rfl rfl ak al rfl rfl rfl (ae [1,4,6,7] ?_);refine aC rfl (ab 1 rfl (tt (l:=1) (h:=x9.length) ah rfl rfl (.inr ⟨_,_,rfl,rfl⟩) (.inl ⟨rfl,rfl⟩) (by omega) (by omega) (ab 1 rfl (az ?_))));exact⟨(_,_,_,_),_,z9,(ix q (fn x9 0),a ++ [fn x9 0],x9.drop 1),by show (x9.drop 1).length<x.length;rw[List.length_drop];omega,au,⟨fV,oB,jt,ak6 Oc (by omega),al4 Fw,hm9,by show (x9.drop 1).length=(q.free.drop 1).length;rw[List.length_drop,List.length_drop,ye.len],amc,by show (a ++ [fn x9 0]).length+(q.free.drop 1).length=_;rw[List.length_append,List.length_drop,List.length_singleton];omega,by show (q.rows.map _).length=_;rw[List.length_map];exact UP,alc hI.C4,⟨_,Od⟩,zY⟩⟩
    ·
     have abU:(x.length:Int)≤0:=by simpa using hb
     have jo:x = []:=List.length_eq_zero_iff.1 (by omega);have jD:q.free = []:=List.length_eq_zero_iff.1 (by rw[←An,jo];rfl);have NT:=hI.chain [] (ak8 jD tr)
     simp only[List.append_nil]at NT
     refine aW (aj [6] rfl ?_);refine ag (ab 3 rfl (ae [2,3] ?_));refine aE ⟨.inr rfl,_,.tmp rfl (.tmp rfl (.nil)),?_⟩;exact⟨hG.le,_,_,_,0,rfl,.inr (.inr (.inr ⟨bx,oM,rfl,a,NT,(hG.sl dL).xL hI.sz⟩))⟩
end Go.aw
