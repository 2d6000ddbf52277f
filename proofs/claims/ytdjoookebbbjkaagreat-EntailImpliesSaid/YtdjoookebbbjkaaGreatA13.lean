/- Part 13 of the proof: Sp, Sl, Val2, Chk1, Dual, Rdual, So, Qq. -/
import Derived.Test.YtdjoookebbbjkaaGreatA12
set_option linter.unusedVariables false
namespace Go.aq
open Go.Proofs Num Lp
theorem aaP{H:Heap}{G:GG}{R W m N:Nat}{M:Nat→Nat→Rat}{B:Nat→Nat}{r c:Nat}(h:cD iK H G R W m M B)(hr:r<m)(kL:r<R)(hc:c<W)(hp:M r c≠0)(hz:∀i,i<R→∀j,j<W→aM (M i j)≤N)(Px:∀i,i<R→∀j,j<W→aM (ma M r c i j)≤N)(hN:(N:Int)≤200000000000)(hR:(R:Int)≤1000000)(hW:(W:Int)≤1000000):
 Fn Tryz.prog 58 #[.agg #[.slice G.Ar R G.cr,G.bv],.int .i64 (r:Int),.int .i64 (c:Int)] H (fun _ H'=>∃M',cD iK H' G R W m M' (fun i=>if i=r then c else B i)∧(∀i,i<R→∀j,j<W→M' i j=ma M r c i j)∧Heap.le (rem H G.gs) (rem H' G.gs)):=by
 obtain⟨pr,cZ⟩:=h.get kL
 obtain⟨Ab,cb,dy,fJ⟩:=h.th
 rw[dy]
 obtain⟨xr0,sr0,tH,IH⟩:=h.ry cZ
 obtain⟨t0,Kp,m7⟩:=mc IH hc
 have jh:=hz r kL c hc
 have aaQ:∀j,j<W→aM (M r j/M r c)≤N:=fun j hj=>by
  have:=Px r kL j hj
  unfold ma at this;rwa [if_pos rfl]at this
 have hinv:aM (1/M r c)≤N:=by
  have e:(1:Rat)/M r c=(M r c)⁻¹:=by rw[Rat.div_def];grind
  rw[e];exact Nat.le_trans (WV _) jh
 refine aY (args:=[_,_,_]) Tryz.func58 rfl rfl Tryz.ntmps58 rfl rfl fun w0=> ?_;refine ah [0,1,2] rfl ?_;refine ae (bZ rfl rfl (ab [1,2,3] ?_));refine bN .bK [1,2,3,4,5,6,7,8,0,9,10,11,12,13,14,15] follows (gV [0,0,2,0,14,30,0,126,254,511,1023,2047,2047,0,12287,32767] (by kernel_rfl)) ?_;refine aa 3 rfl (aS ag rfl rfl rfl rfl rfl (h.hd) (by rw[Int.toNat_natCast];exact kp (rg:=G.rg) (W:=_) cZ) (by omega) (by omega) fun _=> ?_);refine aa 1 rfl (bY (vs:=[.bool t0.f,.slice t0.A1 t0.m1 t0.c1,.slice t0.A2 t0.m2 t0.c2]) ag rfl rfl rfl rfl (dQ tH) rfl (by decide) (by rw[Int.toNat_natCast];exact m7) (by omega) (by omega) fun _=> ?_);refine aW rfl rfl (Fn.kq h.ne (lG (n:=1) (by decide) (by decide))) (fun _ _ h=>by first | exact h.le | exact h.1) ?_;rintro v5 H5 IZ;obtain⟨t5,rfl,eI⟩:=IZ.val;rw[show ((1:Int):Rat)=1 from rfl]at eI
 have qy:aM (1:Rat)≤2:=by decide
 have h5:=h.kept IZ.kept;have anW:=(IZ.kept.same _ (GG.kO (GG.gS cZ))).trans tH;refine aW rfl rfl (Fn.frame h5.ne (PY (N:=N+4) ((bH.raw eI).mono (by omega)) ((bH.raw (Kp.le IZ.kept.le)).mono (by omega)) (by omega))) (fun _ _ h=>h.le fun _ _ h=>h.1) ?_;rintro _ H6 lO;have hK6:Kept G.gs H5 H6:= .of lO fun v K hp=>hp.1;obtain⟨_,w6,rfl,nT⟩:=lO.post;obtain⟨t6,rfl⟩:=nT.rc;have h6:=h5.kept hK6;have fM:=IZ.kept.le.trans hK6.le;have RT:GU (rem H6 G.gs) H6 G R W m (iF M r (M r)) B (.slice none 0 0) (eO (M r) 0):=⟨by rw[Mt];exact h6,lv _ _ _,.refl _⟩;refine aa 3 rfl (bm cj rfl ?_);obtain⟨ti,aj,ak⟩:=aX;refine aI (.inl ⟨rfl,rfl⟩) rfl rfl rfl aj ak rfl rfl rfl (aa 1 rfl (ab [1,2,3,6] ?_));refine ae (aa 1 rfl (ab [1,2,3,6,8] ?_));refine ao (ae (aa 3 rfl (aS ag rfl rfl rfl rfl rfl (h6.hd) (by rw[Int.toNat_natCast];exact kp (rg:=G.rg) (W:=_) cZ) (by omega) (by omega) fun _=> ?_)));refine aa 2 rfl (ab [1,2,3,6,8,32,33] ?_);refine aE (fD (fun(k:Nat)(u:Value)(f:Nat→Rat)=>W-k) (fun(k:Nat)(u:Value)(f:Nat→Rat)=>put (put (put (put (put (put (put (emp) 1 (.val (.int .i64 (r:Int)))) 2 (.val (.int .i64 (c:Int)))) 3 (.box [.slice G.Ar R G.cr,.slice Ab m cb])) 6 (.box [.bool t6.f,.slice t6.A1 t6.m1 t6.c1,.slice t6.A2 t6.m2 t6.c2])) 8 (.val (u))) 32 (.val (.int .i64 (W:Int)))) 33 (.val (.int .i64 (k:Int)))) (fun(k:Nat)(u:Value)(f:Nat→Rat) H'=>GU (rem H6 G.gs) H' G R W m (iF M r f) B u (eO (M r) k)∧Pv1 false false M r c W k f∧k≤W) 0 (.slice none 0 0) (M r) (⟨RT,⟨fun _ _=>rfl,fun h9=>⟨h9,fun j hj=>absurd hj (Nat.not_lt_zero _)⟩⟩,Nat.zero_le _⟩) ar ?_)
 rintro k u f H7 ⟨hU,hP,hk⟩;obtain⟨A7,c7,rfl⟩:=hU.own.form;obtain⟨RU,sr7,Cm,xS⟩:=hU.q.ry (G:=G.on _) cZ;rw[pd]at xS;have RV:=xS.len;rw[bh]at RV;have zb:=aag (M r) k;refine ae (aa 1 rfl (ab [1,2,3,6,8,32,33,34] ?_));refine ao (aD rfl (fun hb=> ?_) (fun hb=> ?_))
 ·
  have fk:k<W:=by simpa using hb
  obtain⟨t7,s5,qY⟩:=mc xS fk;have e7:=hP.1 k (Nat.le_refl _);have SE:=hz r kL k fk;have anX:=aaQ k fk;refine aw (ah [1,2,3,6,8,32,33] rfl ?_);refine ao (aE (ae (aa 2 rfl (ab [1,2,3,6,8,9,32,33] ?_))));refine ae (aa 3 rfl (aS ag rfl rfl rfl rfl rfl (hU.q.hd) (by rw[Int.toNat_natCast];exact kp (rg:=G.rg) (W:=_) cZ) (by omega) (by omega) fun _=> ?_));refine aa 1 rfl (bY (vs:=[.bool t7.f,.slice t7.A1 t7.m1 t7.c1,.slice t7.A2 t7.m2 t7.c2]) ag rfl rfl rfl rfl (dQ Cm) rfl (by decide) (by rw[Int.toNat_natCast];exact qY) (by omega) (by omega) fun _=> ?_);refine aB rfl rfl (Fn.l0 hU.q.ne (sO (bH.raw s5) (by rw[e7];omega))) ?_;rintro v8 H8 ⟨q3,gA,rfl⟩;have xT:=hU.kept q3;have II:=(q3.same _ (GG.kO (GG.gS (G:=G.on _) cZ))).trans Cm;refine aa 1 rfl (ab [1,2,3,6,8,9,32,33,45] ?_);refine aD rfl (fun hb=> ?_) (fun hb=> ?_)
  ·
   have bA:M r k≠0:=fun h9=>by rw[e7,h9]at hb;simp[eY]at hb
   refine bN .gD [0,1,2,3,4,5,6,7,8,9,10,11,12,13,14,15,16,17] follows (gV [0,1,0,7,15,0,0,64,0,448,960,0,4032,8128,0,32704,65535,131071] (by kernel_rfl)) ?_;refine aa 3 rfl (aS ag rfl rfl rfl rfl rfl (xT.q.hd) (by rw[Int.toNat_natCast];exact kp (rg:=G.rg) (W:=_) cZ) (by omega) (by omega) fun _=> ?_);refine aa 4 rfl (aS ag rfl rfl rfl rfl rfl (xT.q.hd) (by rw[Int.toNat_natCast];exact kp (rg:=G.rg) (W:=_) cZ) (by omega) (by omega) fun _=> ?_);refine aa 1 rfl (bY (vs:=[.bool t7.f,.slice t7.A1 t7.m1 t7.c1,.slice t7.A2 t7.m2 t7.c2]) ag rfl rfl rfl rfl (dQ II) rfl (by decide) (by rw[Int.toNat_natCast];exact qY) (by omega) (by omega) fun _=> ?_);refine aa 1 rfl (aW rfl rfl (Fn.kq xT.q.ne (Ee (N:=N) ((bH.raw (s5.le q3.le)).mono (by rw[e7];omega)) ((bH.raw (nT.le xT.le)).mono hinv) (by omega))) (fun _ _ h=>by first | exact h.le | exact h.1) ?_);rintro v9 H9 SF;obtain⟨t9,rfl,fu⟩:=SF.val;have akl:=(SF.kept.same _ (GG.kO (GG.gS (G:=G.on _) cZ))).trans II;have rh:=xT.set cZ SF.kept II (by rw[pd];exact xS.mono fun vs a=>ef _ _ vs a q3.le) fk (show cg _ [_,_,_] _ from fu);rw[pd,Ms]at rh;obtain⟨ti,aj,ak⟩:=aX;refine cT (.inr rfl) ag rfl rfl rfl (by omega) (by omega) (akl) rfl (by show 0+W*3≤RU.length;omega) aj ak (fun _=>rfl) rfl rfl rfl fun _=> ?_
   refine ab [1,2,3,6,8,9,32,33] ?_;rw[Nat.zero_add,Int.toNat_natCast];refine aA rfl (aa 2 rfl (cS Tryz.underlying49 fE rfl rfl rfl rfl rfl rfl rfl ?_));intro gb a6;have rh:=rh.fresh (e:=whole [.int .i64 (k:Int)] 3) a6;refine eD Tryz.underlying49 fE rfl rfl (rh.own) (eN _ _ _ _ _ _) (rfl) (sV _) (by omega) (by omega) ?_;intro u' nh RW;have RX:=rh.app rfl RW;refine aa 1 rfl (au (ah [1,2,3,6,8,32,33] rfl ?_));refine aA rfl (aF rfl rfl ⟨by omega,by omega⟩ (aa 1 rfl (au ?_)))
   exact⟨k+1,u',bT f k (f k*(1/M r c)),by omega,ar,by rw[Mr,if_neg bA];exact RX,⟨fun j hj=>by rw[pc (by omega)];exact hP.1 j (by omega),fun h9=>by
    obtain⟨g3,g4⟩:=hP.2 h9;refine⟨g3,fun j hj=> ?_⟩
    by_cases ej:j=k
    ·
     subst ej;rw[re,hP.1 j (Nat.le_refl _),Rat.div_def,Rat.div_def];grind
    ·rw[pc ej];exact g4 j (by omega)⟩,by omega⟩
  ·
   have qe:M r k=0:=by rw[←e7];exact vH (by simpa using hb)
   refine aw (ah [1,2,3,6,8,32,33] rfl ?_);refine aA rfl (aF rfl rfl ⟨by omega,by omega⟩ (aa 1 rfl (au ?_)))
   exact⟨k+1,_,f,by omega,ar,by rw[Mr,if_pos qe,List.append_nil];exact xT,⟨fun j hj=>hP.1 j (by omega),fun h9=>by
    obtain⟨g3,g4⟩:=hP.2 h9;refine⟨g3,fun j hj=> ?_⟩
    by_cases ej:j=k
    ·
     subst ej;rw[hP.1 j (Nat.le_refl _),qe,Rat.div_def];grind
    ·exact g4 j (by omega)⟩,by omega⟩
 ·
  have hb:W≤k:=by simpa using hb
  obtain rfl:k=W:=by omega
  have RY:zG false false M r c R k 0 (iF M r f):=⟨fun i _ hi=>EH hi,fun h9=>by
   obtain⟨g3,g4⟩:=hP.2 h9;refine⟨g3,fun i _ j hj hd=> ?_⟩
   obtain rfl:i=r:=by omega
   rw[pd,g4 j hj];unfold ma;rw[if_pos rfl]⟩
  have dW:=aah (M r) k;refine aU (ah [1,2,3,8] rfl ?_);refine ao (ae (aa 4 rfl (ab [1,2,3,8,70,71] ?_)));refine aE (fX (fun(i:Nat)(M1:Nat→Nat→Rat)=>R-i) (fun(i:Nat)(M1:Nat→Nat→Rat)=>put (put (put (put (put (put (emp) 1 (.val (.int .i64 (r:Int)))) 2 (.val (.int .i64 (c:Int)))) 3 (.box [.slice G.Ar R G.cr,.slice Ab m cb])) 8 (.val (.slice A7 (eO (M r) k).length c7))) 70 (.val (.int .i64 (R:Int)))) 71 (.val (.int .i64 (i:Int)))) (fun(i:Nat)(M1:Nat→Nat→Rat) H'=>GU (rem H6 G.gs) H' G R k m M1 B (.slice A7 (eO (M r) k).length c7) (eO (M r) k)∧zG false false M r c R k i M1∧i≤R) 0 (iF M r f) (⟨hU,RY,Nat.zero_le _⟩) ar ?_);rintro i M1 ju ⟨hV,hQ,hi⟩;refine ae (aa 1 rfl (ab [1,2,3,8,70,71,72] ?_));refine ao (aD rfl (fun hb=> ?_) (fun hb=> ?_))
  ·
   have uT:i<R:=by simpa using hb
   obtain⟨pi,cX⟩:=h.get uT;obtain⟨ajK,ajL,IJ,RZ⟩:=hV.q.ry (G:=G.on _) cX;obtain⟨t11,s6,EA⟩:=mc RZ hc;refine aw (ah [1,2,3,8,70,71] rfl ?_);refine ao (aE (ae (aa 2 rfl (ab [1,2,3,8,10,70,71] ?_))));refine ao ?_
   by_cases h1:i=r
   ·
    skip
    refine ae (aa 2 rfl (aG true rfl rfl (gi (by omega)) (aa 12 rfl (ab [1,2,3,8,10,70,71,88] ?_))));refine cI rfl (aU (ah [1,2,3,8,70,71] rfl ?_));refine aA rfl (aF rfl rfl ⟨by omega,by omega⟩ (aa 1 rfl (au ?_)));exact⟨i+1,M1,by omega,ar,hV,Mu hQ hc uT (.inl h1),by omega⟩
   have Cx:M1 i=M i:=hQ.1 i (Nat.le_refl _) h1;have Zo:=hz i uT c hc;refine ae (aa 2 rfl (aG false rfl rfl (jn (by omega)) (aa 4 rfl (aS ag rfl rfl rfl rfl rfl (hV.q.hd) (by rw[Int.toNat_natCast];exact kp (rg:=G.rg) (W:=_) cX) (by omega) (by omega) fun _=> ?_))));refine aa 1 rfl (bY (vs:=[.bool t11.f,.slice t11.A1 t11.m1 t11.c1,.slice t11.A2 t11.m2 t11.c2]) ag rfl rfl rfl rfl (dQ IJ) rfl (by decide) (by rw[Int.toNat_natCast];exact EA) (by omega) (by omega) fun _=> ?_);refine aB rfl rfl (Fn.l0 hV.q.ne (sO (bH.raw s6) (by rw[Cx];omega))) ?_;rintro v12 dG ⟨zo,lh,rfl⟩;have EI:=hV.kept zo;have akm:=(zo.same _ (GG.kO (GG.gS (G:=G.on _) cX))).trans IJ;have akn:=s6.le zo.le;refine aa 2 rfl (ab [1,2,3,8,10,70,71,88] ?_);refine aD rfl (fun hb=> ?_) (fun hb=> ?_)
   ·
    skip
    refine aU (ah [1,2,3,8,70,71] rfl ?_);refine aA rfl (aF rfl rfl ⟨by omega,by omega⟩ (aa 1 rfl (au ?_)));exact⟨i+1,M1,by omega,ar,EI,Mu hQ hc uT (.inr (vH (by simpa using hb))),by omega⟩
   skip
   refine aw (ah [1,2,3,8,10,70,71] rfl ?_);refine ae (aa 3 rfl (aS ag rfl rfl rfl rfl rfl (EI.q.hd) (by rw[Int.toNat_natCast];exact kp (rg:=G.rg) (W:=_) cX) (by omega) (by omega) fun _=> ?_));refine aa 1 rfl (bY (vs:=[.bool t11.f,.slice t11.A1 t11.m1 t11.c1,.slice t11.A2 t11.m2 t11.c2]) ag rfl rfl rfl rfl (dQ akm) rfl (by decide) (by rw[Int.toNat_natCast];exact EA) (by omega) (by omega) fun _=> ?_);refine bm cj rfl ?_;obtain⟨ti,aj,ak⟩:=aX;refine aI (.inl ⟨rfl,rfl⟩) rfl rfl rfl aj ak rfl rfl rfl (ab [1,2,3,8,10,11,70,71] ?_);have IK:=EI.vZ;rw[←Mt M1 i]at IK;refine ae (aa 3 rfl (ab [1,2,3,8,10,11,70,71,97,98,99] ?_));refine aE (fX (fun(t:Nat)(f2:Nat→Rat)=>(eO (M r) k).length-t) (fun(t:Nat)(f2:Nat→Rat)=>put (put (put (put (put (put (put (put (put (put (put (emp) 1 (.val (.int .i64 (r:Int)))) 2 (.val (.int .i64 (c:Int)))) 3 (.box [.slice G.Ar R G.cr,.slice Ab m cb])) 8 (.val (.slice A7 (eO (M r) k).length c7))) 10 (.val (.int .i64 (i:Int)))) 11 (.box [.bool t11.f,.slice t11.A1 t11.m1 t11.c1,.slice t11.A2 t11.m2 t11.c2])) 70 (.val (.int .i64 (R:Int)))) 71 (.val (.int .i64 (i:Int)))) 97 (.val (.slice A7 (eO (M r) k).length c7))) 98 (.val (.int .i64 ((eO (M r) k).length:Int)))) 99 (.val (.int .i64 (t:Int)))) (fun(t:Nat)(f2:Nat→Rat) H'=>GU (rem dG (G.on (aC (.slice A7 (eO (M r) k).length c7)++G.top)).gs) H' G R k m (iF M1 i f2) B (.slice A7 (eO (M r) k).length c7) (eO (M r) k)∧IG false false (M1 i) (M1 r) (M1 i c) (eO (M r) k) t f2∧t≤(eO (M r) k).length) 0 (M1 i) (⟨IK,fun h9=>⟨h9,fun j=>by simp⟩,Nat.zero_le _⟩) ar ?_)
   rintro t f2 lH ⟨hX,EJ,ht⟩;obtain⟨Mw,aas,zH,uU⟩:=hX.q.ry (G:=G.on _) cX;obtain⟨ajO,ajP,R0,IM⟩:=hX.q.ry (G:=G.on _) cZ;rw[pd]at uU;rw[EH (fun e=>h1 e.symm)]at IM;have R1:=uU.len;rw[bh]at R1;refine ae (aa 1 rfl (ab [1,2,3,8,10,11,70,71,97,98,99,100] ?_));refine ao (aD rfl (fun hb=> ?_) (fun hb=> ?_))
   ·
    have pe:t<(eO (M r) k).length:=by simpa using hb
    obtain⟨kk,bV⟩:∃kk,(eO (M r) k)[t]? = some kk:=⟨_,List.getElem?_eq_getElem pe⟩;have fk:kk<k:=(RS.1 (List.mem_of_getElem? bV)).1;obtain⟨t13,ako,R2⟩:=mc uU fk;obtain⟨t14,xV,IN⟩:=mc IM fk
    have e13:f2 kk=M i kk:=by rw[(EJ rfl).2 kk,if_neg (aai dW bV),Cx]
    have ya:M1 r kk=M r kk/M r c:=by rw[(hQ.2 rfl).2 r kL kk fk (.inl rfl)];unfold ma;rw[if_pos rfl]
    have z13:=hz i uT kk fk;have z14:=aaQ kk fk;have z15:=sk (M1 i c) (M1 r kk);rw[Cx,ya]at z15;refine aw (ah [1,2,3,8,10,11,70,71,97,98,99] rfl ?_);refine ao (aE (ae (aS ag rfl rfl rfl rfl rfl (hX.rd) (by rw[Int.toNat_natCast];show (List.map _ _)[t]? = _;rw[List.getElem?_map,bV];rfl) (by omega) (by omega) fun _=> ?_)));refine aa 1 rfl (ab [1,2,3,8,10,11,13,70,71,97,98,99] ?_);refine eK .gD [0,1,2,3,4,5,6,7,8,9,10,11,12,13,14,15,16,17,18,19,20,21,22,23,24,25,26] follows (gV [0,1,0,7,15,0,0,64,0,448,960,0,4032,8128,0,0,32768,0,229376,491520,0,2064384,4161536,8372224,16777152,33554431,67108863] (by kernel_rfl)) ?_;refine aa 3 rfl (aS ag rfl rfl rfl rfl rfl (hX.q.hd) (by rw[Int.toNat_natCast];exact kp (rg:=G.rg) (W:=_) cX) (by omega) (by omega) fun _=> ?_);refine aa 4 rfl (aS ag rfl rfl rfl rfl rfl (hX.q.hd) (by rw[Int.toNat_natCast];exact kp (rg:=G.rg) (W:=_) cX) (by omega) (by omega) fun _=> ?_);refine aa 1 rfl (bY (vs:=[.bool t13.f,.slice t13.A1 t13.m1 t13.c1,.slice t13.A2 t13.m2 t13.c2]) ag rfl rfl rfl rfl (dQ zH) rfl (by decide) (by rw[Int.toNat_natCast];exact R2) (by omega) (by omega) fun _=> ?_);refine aa 4 rfl (aS ag rfl rfl rfl rfl rfl (hX.q.hd) (by rw[Int.toNat_natCast];exact kp (rg:=G.rg) (W:=_) cZ) (by omega) (by omega) fun _=> ?_)
    refine aa 1 rfl (bY (vs:=[.bool t14.f,.slice t14.A1 t14.m1 t14.c1,.slice t14.A2 t14.m2 t14.c2]) ag rfl rfl rfl rfl (dQ R0) rfl (by decide) (by rw[Int.toNat_natCast];exact IN) (by omega) (by omega) fun _=> ?_);refine aW rfl rfl (Fn.kq hX.q.ne (Ee (N:=N) ((bH.raw (akn.le hX.le)).mono (by rw[Cx];omega)) ((bH.raw xV).mono (by rw[ya];omega)) (by omega))) (fun _ _ h=>by first | exact h.le | exact h.1) ?_;rintro v14 qa I0;obtain⟨t15,rfl,IP⟩:=I0.val;have aaR:=hX.kept I0.kept;have MQ:=(I0.kept.same _ (GG.kO (GG.gS (G:=G.on _) cX))).trans zH;refine aW rfl rfl (Fn.kq aaR.q.ne (Ed (N:=2*N) ((bH.raw (ako.le I0.kept.le)).mono (by rw[e13];omega)) ((bH.raw IP).mono (by rw[Cx,ya];omega)) (by omega))) (fun _ _ h=>by first | exact h.le | exact h.1) ?_;rintro R3 mL SG;obtain⟨t16,rfl,akp⟩:=SG.val;have R5:=(SG.kept.same _ (GG.kO (GG.gS (G:=G.on _) cX))).trans MQ;have IQ:=aaR.set cX SG.kept MQ (by rw[pd];exact uU.mono fun vs a=>ef _ _ vs a I0.kept.le) fk (show cg _ [_,_,_] _ from akp);rw[pd,Ms]at IQ;obtain⟨ti,aj,ak⟩:=aX;refine cT (.inr rfl) ag rfl rfl rfl (by omega) (by omega) (R5) rfl (by show 0+k*3≤Mw.length;omega) aj ak (fun _=>rfl) rfl rfl rfl fun _=> ?_;refine au ?_;rw[Nat.zero_add,Int.toNat_natCast];refine ah [1,2,3,8,10,11,70,71,97,98,99] rfl ?_
    refine aA rfl (aF rfl rfl ⟨by omega,by omega⟩ (aa 1 rfl (au ?_)));exact⟨t+1,bT f2 kk (f2 kk-M1 i c*M1 r kk),by omega,ar,IQ,aaj EJ dW bV fun h9=>⟨h9,rfl⟩,by omega⟩
   have pe:(eO (M r) k).length≤t:=by simpa using hb
   obtain rfl:t=(eO (M r) k).length:=by omega
   refine aU (ah [1,2,3,8,70,71] rfl ?_);refine aA rfl (aF rfl rfl ⟨by omega,by omega⟩ (aa 1 rfl (au ?_)));exact⟨i+1,iF M1 i f2,by omega,ar,hX.down EI.le,aak hQ hc kL h1 EJ,by omega⟩
  have uT:R≤i:=by simpa using hb
  obtain rfl:i=R:=by omega
  obtain⟨hD,EK⟩:=hV.drop
  obtain⟨gb,cb9,sz,lz,I1,a6⟩:∃gb cb sz,G.bb = [gb]∧G.bv = .slice (some ⟨gb,0,none⟩) m cb∧ju gb=some ⟨eP B m,sz,3,true⟩:=by
   rcases hD.basis with h7 | h7
   ·have:=h7.1;omega
   ·exact h7
  have hm:gb∈G.gs:=GG.kO (GG.mE (by rw[lz];exact List.mem_singleton.2 rfl));have eAb:Ab=some ⟨gb,0,none⟩:=(Value.slice.inj (dy.symm.trans I1)).1;subst eAb;refine aU (ah [1,2,3] rfl ?_);refine aA rfl (vr 4 ?_);obtain⟨ti,aj,ak⟩:=vq;refine cT (.inl rfl) ag rfl rfl rfl (by omega) (by omega) (a6) rfl (by show 0+m*1≤(eP B m).length;rw[Bt];omega) aj ak (fun _=>rfl) rfl rfl rfl fun _=> ?_;refine au ?_;refine⟨.inl rfl,_,.nil,?_⟩
  have he:({(⟨eP B m,sz,3,true⟩:Ent)with xs:=aL (eP B m) (0+((r:Int)).toNat*1) [.int .i64 (c:Int)]}:Ent)=⟨eP (fun i=>if i=r then c else B i) m,sz,3,true⟩:=by
   rw[Int.toNat_natCast,Nat.mul_one,Nat.zero_add,←Pw];rfl
  rw[he];refine⟨M1,hD.DR lz I1,fun i hi j hj=>(hQ.2 rfl).2 i hi j hj (.inr hi),?_⟩;rw[cJ _ hm];exact fM.trans EK
end Go.aq
namespace Go.aq
open Go.Proofs Num Lp
theorem aaS{q:Rat}:eY q<0↔q<0:=by
 unfold eY;split
 ·simp[*]
 ·split <;> simp_all
theorem aaT{q:Rat}:eY q≤0↔q≤0:=by
 unfold eY;split
 ·exact⟨fun _=>by grind,fun _=>by decide⟩
 ·split
  ·exact⟨fun _=>by grind,fun _=>by decide⟩
  ·exact⟨fun h=>absurd h (by decide),fun h=>by grind⟩
theorem akq{p q:Rat}:nJ p q<0↔p<q:=by
 unfold nJ;split
 ·simp[*]
 ·split <;> simp_all
theorem akr{p q:Rat}:nJ p q=0↔p=q:=by
 unfold nJ;split
 ·exact⟨fun h=>absurd h (by decide),fun h=>by grind⟩
 ·split
  ·simp[*]
  ·exact⟨fun h=>absurd h (by decide),fun h=>by grind⟩
structure I3 where
 i:Nat
 z:Int
 t:RC
def I4(M:Nat→Nat→Rat)(B:Nat→Nat)(n c:Nat)(K:Heap)(y:I3):Prop:=(y.z = -1∧∀i,i<y.i→M i c≤0)∨∃(r:Nat)(q:Rat),y.z=(r:Int)∧r<y.i∧0<M r c∧bH K y.t.v q∧Lst M B n c y.i r q
theorem aks{M:Nat→Nat→Rat}{B:Nat→Nat}{n c:Nat}{K K':Heap}{y:I3}(h:I4 M B n c K y)(hl:Heap.le K K')(hk:M y.i c≤0):I4 M B n c K' ⟨y.i+1,y.z,y.t⟩:=by
 rcases h with ⟨h1,h2⟩ | ⟨r,q,h1,h2,h3,h4,h5⟩
 ·refine .inl ⟨h1,fun i hi=> ?_⟩
  by_cases e:i=y.i
  ·rw[e];exact hk
  ·exact h2 i (by have:i<y.i+1:=hi;omega)
 ·exact .inr ⟨r,q,h1,Nat.lt_succ_of_lt h2,h3,h4.le hl,aaw h5 hk⟩
def SvP(M:Nat→Nat→Rat)(B:Nat→Nat)(n c m:Nat)(z:Int):Prop:=(z = -1∧∀i,i<m→M i c≤0)∨∃r:Nat,z=(r:Int)∧r<m∧0<M r c∧∃q,Lst M B n c m r q
def EnP(M:Nat→Nat→Rat)(R u:Nat)(z:Int):Prop:=(z = -1∧∀j,j<u→0≤M R j)∨∃s:Nat,z=(s:Int)∧s<u∧M R s<0∧∀j,j<s→0≤M R j
theorem akt{H:Heap}{G:GG}{R W m N u:Nat}{M:Nat→Nat→Rat}{B:Nat→Nat}(h:cD iK H G (R+1) W m M B)(hu:u≤W)(hz:∀j,j<u→aM (M R j)≤N)(hN:(N:Int)≤200000000000)(hR:(R:Int)≤1000000)(hW:(W:Int)≤1000000):
 Fn Tryz.prog 103 #[.agg #[.slice G.Ar (R+1) G.cr,G.bv],.int .i64 (u:Int)] H (fun v H'=>∃z,v = .int .i64 z∧Kept G.gs H H'∧EnP M R u z):=by
 obtain⟨pr,cZ⟩:=h.get (Nat.lt_succ_self R)
 obtain⟨Ab,cb,dy,fJ⟩:=h.th
 rw[dy]
 obtain⟨xr0,sr0,tH,IH⟩:=h.ry cZ;refine aY (args:=[_,_]) Tryz.func103 rfl rfl Tryz.ntmps103 rfl rfl fun w0=> ?_;refine ah [0,1] rfl ?_;refine ae (bZ rfl rfl (aa 1 rfl (ab [1,2] ?_)));refine ae (aa 5 rfl (cQ rfl rfl ⟨by omega,by omega⟩ (aS ag rfl rfl rfl rfl rfl (h.hd) (by rw[show (((R+1:Nat):Int)-1).toNat=R by omega];exact kp (rg:=G.rg) (W:=_) cZ) (by omega) (by omega) fun _=> ?_)));refine aa 1 rfl (ab [1,5] ?_);refine ao (ae (aa 1 rfl (ab [1,5,6] ?_)));refine aE (fI (fun(k:Nat)=>u-k) (fun(k:Nat)=>put (put (put (emp) 1 (.val (.int .i64 (u:Int)))) 5 (.val (.slice (some ⟨pr.1,0,none⟩) W pr.2))) 6 (.val (.int .i64 (k:Int)))) (fun(k:Nat) H'=>Kept G.gs H H'∧k≤u∧∀j,j<k→0≤M R j) 0 (⟨.refl _ _,Nat.zero_le _,fun j hj=>absurd hj (Nat.not_lt_zero _)⟩) ar ?_);rintro k H1 ⟨gL,K8,fm⟩;have Pt:=(gL.same _ (GG.kO (GG.gS cZ))).trans tH;have h1:=h.kept gL;refine ao (ae (aa 3 rfl (ab [1,5,6,17] ?_)));refine aD rfl (fun hb=> ?_) (fun hb=> ?_)
 ·
  have aaU:k<u:=by simpa using hb
  obtain⟨t1,zQ,jf⟩:=mc IH (show k<W by omega);have mY:=hz k aaU;refine aw (ah [1,5,6] rfl ?_);refine ao (aE (ae (aa 2 rfl (bY (vs:=[.bool t1.f,.slice t1.A1 t1.m1 t1.c1,.slice t1.A2 t1.m2 t1.c2]) ag rfl rfl rfl rfl (dQ Pt) rfl (by decide) (by rw[Int.toNat_natCast];exact jf) (by omega) (by omega) fun _=> ?_))));refine aB rfl rfl (Fn.l0 h1.ne (sO (bH.raw (zQ.le gL.le)) (by omega))) ?_;rintro v2 H2 ⟨fP,cA,rfl⟩;refine aa 1 rfl (ab [1,5,6,25] ?_);refine aD rfl (fun hb=> ?_) (fun hb=> ?_)
  ·
   have hb:M R k<0:=aaS.1 (by simpa using hb);refine ae (aa 2 rfl (ab [4] ?_));refine az ⟨.inr rfl,_,.tmp rfl (.nil),?_⟩;exact⟨_,rfl,gL.trans fP,.inr ⟨k,rfl,aaU,hb,fm⟩⟩
  ·
   have hb:¬M R k<0:=fun h9=>by have:=aaS.2 h9;simp at hb;omega
   refine aw (ah [1,5,6] rfl ?_);refine aA rfl (aa 1 rfl (aF rfl rfl ⟨by omega,by omega⟩ (aa 1 rfl (au ?_))))
   exact⟨k+1,by omega,ar,gL.trans fP,by omega,fun j hj=>by
    by_cases ej:j=k
    ·subst ej;grind
    ·exact fm j (by omega)⟩
 ·
  have hb:u≤k:=by simpa using hb
  obtain rfl:k=u:=by omega
  refine aU (ah [] rfl ?_);refine ae (aa 1 rfl (ab [4] ?_));refine az ⟨.inr rfl,_,.tmp rfl (.nil),?_⟩;exact⟨_,rfl,gL,.inl ⟨rfl,fm⟩⟩
theorem aku{H:Heap}{G:GG}{R W m N:Nat}{M:Nat→Nat→Rat}{B:Nat→Nat}{c:Nat}(h:cD iK H G R W m M B)(R7:m≤R)(hc:c<W)(hz:∀i,i<m→∀j,j<W→aM (M i j)≤N)(hN:(N:Int)≤200000000000)(hR:(R:Int)≤1000000)(hW:(W:Int)≤1000000):
 Fn Tryz.prog 104 #[.agg #[.slice G.Ar (R) G.cr,G.bv],.int .i64 (c:Int)] H (fun v H'=>∃z,v = .int .i64 z∧Kept G.gs H H'∧SvP M B (W-1) c m z):=by
 obtain⟨Ab,cb,dy,fJ⟩:=h.th
 have mj:∀{H':Heap},Kept G.gs H H'→∀i,i<m→Rd H' Ab (eP B m):=fun k i hi=>fJ (t:=G.top) (h.kept k) i hi
 rw[dy];refine aY (args:=[_,_]) Tryz.func104 rfl rfl Tryz.ntmps104 rfl rfl fun w0=> ?_;refine ah [0,1] rfl ?_;refine ae (bZ rfl rfl (aa 1 rfl (ab [1,2] ?_)));refine ae (di ag rfl cj rfl rfl (bm cj rfl (vr 1 ?_)));obtain⟨ti,aj,ak⟩:=aX;refine aI (.inl ⟨rfl,rfl⟩) rfl rfl rfl aj ak rfl rfl rfl (ab [1,2,5,6] ?_);refine ao (ae (aa 4 rfl (ab [1,2,5,6,14,15] ?_)));refine aE (fI (fun(y:I3)=>m-y.i) (fun(y:I3)=>put (put (put (put (put (put (emp) 1 (.val (.int .i64 (c:Int)))) 2 (.box [.slice G.Ar R G.cr,.slice Ab m cb])) 5 (.val (.int .i64 y.z))) 6 (.box [.bool y.t.f,.slice y.t.A1 y.t.m1 y.t.c1,.slice y.t.A2 y.t.m2 y.t.c2])) 14 (.val (.int .i64 (m:Int)))) 15 (.val (.int .i64 (y.i:Int)))) (fun(y:I3) H'=>Kept G.gs H H'∧y.i≤m∧I4 M B (W-1) c (rem H' G.gs) y) ⟨0,-1,⟨false,none,0,0,none,0,0⟩⟩ (⟨.refl _ _,Nat.zero_le _,.inl ⟨rfl,fun i hi=>absurd hi (Nat.not_lt_zero _)⟩⟩) ar ?_);rintro y H2 ⟨fP,hym,hI⟩;have h2:=h.kept fP;refine ae (aa 1 rfl (ab [1,2,5,6,14,15,16] ?_));refine ao (aD rfl (fun hb=> ?_) (fun hb=> ?_))
 ·
  have aO:y.i<m:=by simpa using hb
  obtain⟨pi,cX⟩:=h2.get (show y.i<R by omega);obtain⟨xi,si,s8,xW⟩:=h2.ry cX;obtain⟨t1,zQ,jf⟩:=mc xW hc;obtain⟨t2,fC,m0⟩:=mc xW (show W-1<W by omega);have mY:=hz y.i aO c hc;have pI:=hz y.i aO (W-1) (by omega);refine aw (ah [1,2,5,6,14,15] rfl ?_);refine ao (aE (ae (aa 2 rfl (ab [1,2,5,6,7,14,15] ?_))));refine ao (ae (aa 3 rfl (aS ag rfl rfl rfl rfl rfl (h2.hd) (by rw[Int.toNat_natCast];exact kp (rg:=G.rg) (W:=_) cX) (by omega) (by omega) fun _=> ?_)));refine aa 1 rfl (bY (vs:=[.bool t1.f,.slice t1.A1 t1.m1 t1.c1,.slice t1.A2 t1.m2 t1.c2]) ag rfl rfl rfl rfl (dQ s8) rfl (by decide) (by rw[Int.toNat_natCast];exact jf) (by omega) (by omega) fun _=> ?_);refine aB rfl rfl (Fn.l0 h2.ne (sO (bH.raw zQ) (by omega))) ?_;rintro v3 H3 ⟨dz,dK,rfl⟩;have h3:=h2.kept dz;have Iu:=fP.trans dz;have aaV:=(dz.same _ (GG.kO (GG.gS cX))).trans s8;refine aa 1 rfl (ab [1,2,5,6,7,14,15,27] ?_);refine aD rfl (fun hb=> ?_) (fun hb=> ?_)
  ·
   have hb:M y.i c≤0:=aaT.1 (by simpa using hb);refine aU (ah [1,2,5,6,14,15] rfl ?_);refine aA rfl (aF rfl rfl ⟨by omega,by omega⟩ (aa 1 rfl (au ?_)));exact⟨⟨y.i+1,y.z,y.t⟩,(show m-(y.i+1)<m-y.i by omega),ar,Iu,(show y.i+1≤m by omega),aks hI dz.le hb⟩
  ·
   have fi:0<M y.i c:=by
    have h9:¬M y.i c≤0:=fun h9=>by have:=aaT.2 h9;simp at hb;omega
    grind
   refine aw (ah [1,2,5,6,7,14,15] rfl ?_);refine bN .bK [0,1,2,3,4,5,6,7,8,9,10,11,12,13,14,15,16,17,18,19,20,21,22,23,24,25,26,27,28] follows (gV [0,1,0,7,15,0,32,0,224,480,992,2016,4095,8191,0,16384,0,114688,245760,0,1032192,2080768,4194303,8388607,16777215,16777215,0,100663295,268435455] (by kernel_rfl)) ?_;refine aa 3 rfl (aS ag rfl rfl rfl rfl rfl (h3.hd) (by rw[Int.toNat_natCast];exact kp (rg:=G.rg) (W:=_) cX) (by omega) (by omega) fun _=> ?_);refine aa 3 rfl (aS ag rfl rfl rfl rfl rfl (h3.hd) (by rw[Int.toNat_natCast];exact kp (rg:=G.rg) (W:=_) cX) (by omega) (by omega) fun _=> ?_);refine aa 1 rfl (cQ rfl rfl ⟨by omega,by omega⟩ (bY (vs:=[.bool t2.f,.slice t2.A1 t2.m1 t2.c1,.slice t2.A2 t2.m2 t2.c2]) ag rfl rfl rfl rfl (dQ aaV) rfl (by decide) (by rw[show ((W:Int)-1).toNat=W-1 by omega];exact m0) (by omega) (by omega) fun _=> ?_));refine aa 3 rfl (aS ag rfl rfl rfl rfl rfl (h3.hd) (by rw[Int.toNat_natCast];exact kp (rg:=G.rg) (W:=_) cX) (by omega) (by omega) fun _=> ?_);refine aa 1 rfl (bY (vs:=[.bool t1.f,.slice t1.A1 t1.m1 t1.c1,.slice t1.A2 t1.m2 t1.c2]) ag rfl rfl rfl rfl (dQ aaV) rfl (by decide) (by rw[Int.toNat_natCast];exact jf) (by omega) (by omega) fun _=> ?_)
   refine aW rfl rfl (Fn.frame h3.ne (PY (N:=N) ((bH.raw (fC.le dz.le)).mono (by omega)) ((bH.raw (zQ.le dz.le)).mono (by omega)) (by omega))) (fun _ _ h=>h.le fun _ _ h=>h.1) ?_;rintro _ H8 qd;have q3:Kept G.gs H3 H8:= .of qd fun v K hp=>hp.1;obtain⟨_,w8,rfl,eJ⟩:=qd.post;obtain⟨t8,rfl⟩:=eJ.rc;have aaW:=Iu.trans q3;have h8:=h.kept aaW;have Rg:=DU (M y.i (W-1)) (M y.i c)
   replace hI:I4 M B (W-1) c (rem H8 G.gs) y:=by
    rcases hI with h9 | ⟨r,q,h9,h5,h6,h7,h8⟩
    ·exact .inl h9
    ·exact .inr ⟨r,q,h9,h5,h6,(h7.le dz.le).le q3.le,h8⟩
   refine aa 3 rfl (bm cj rfl ?_);obtain⟨ti,aj,ak⟩:=aX;refine aI (.inl ⟨rfl,rfl⟩) rfl rfl rfl aj ak rfl rfl rfl (aa 1 rfl (ab [1,2,5,6,7,8,14,15] ?_));refine ae (aa 1 rfl (ab [1,2,5,6,7,8,10,14,15] ?_));refine kT (fun(s:Int)=>put (put (put (put (put (put (put (put (put (emp) 1 (.val (.int .i64 (c:Int)))) 2 (.box [.slice G.Ar R G.cr,.slice Ab m cb])) 5 (.val (.int .i64 y.z))) 6 (.box [.bool y.t.f,.slice y.t.A1 y.t.m1 y.t.c1,.slice y.t.A2 y.t.m2 y.t.c2])) 7 (.val (.int .i64 (y.i:Int)))) 8 (.box [.bool t8.f,.slice t8.A1 t8.m1 t8.c1,.slice t8.A2 t8.m2 t8.c2])) 10 (.val (.int .i64 s))) 14 (.val (.int .i64 (m:Int)))) 15 (.val (.int .i64 (y.i:Int)))) (fun(s:Int) H'=>Kept G.gs H8 H'∧((y.z = -1∧s = -1∧∀i,i<y.i→M i c≤0)∨∃(r:Nat)(q:Rat),y.z=(r:Int)∧r<y.i∧0<M r c∧bH (rem H8 G.gs) y.t.v q∧Lst M B (W-1) c y.i r q∧(s<0↔M y.i (W-1)/M y.i c<q)∧(s=0↔M y.i (W-1)/M y.i c=q))) ?_ ?_
   ·
    refine ae (aa 2 rfl (ab [1,2,5,6,7,8,10,14,15,55] ?_));refine aD rfl (fun hb=> ?_) (fun hb=> ?_)
    ·
     have hb:0≤y.z:=by simpa using hb
     obtain⟨r,q,ez,xX,cZ,iU,hL⟩:∃(r:Nat)(q:Rat),y.z=(r:Int)∧r<y.i∧0<M r c∧bH (rem H8 G.gs) y.t.v q∧Lst M B (W-1) c y.i r q:=by
      rcases hI with ⟨ez,_⟩ | h9
      ·omega
      ·exact h9
     have hzq:aM q≤2*N:=by
      rw[hL.1];have:=DU (M r (W-1)) (M r c);have:=hz r (by omega) c hc;have:=hz r (by omega) (W-1) (by omega)
      omega
     refine aA rfl (aa 2 rfl (aB rfl rfl (Fn.l0 h8.ne (Lv (N:=2*N) ((bH.raw eJ).mono (by omega)) ((bH.raw iU).mono (by omega)) (by omega))) ?_));rintro v9 H9 ⟨gG,ea,rfl⟩;refine aa 1 rfl (au ?_);exact⟨_,ar,gG,.inr ⟨r,q,ez,xX,cZ,iU,hL,akq,akr⟩⟩
    have hb:y.z<0:=by simpa using hb
    refine aw ?_
    skip
    rcases hI with ⟨ez,fm⟩ | ⟨r,q,ez,_⟩
    ·exact⟨_,ar,.refl _ _,.inl ⟨ez,rfl,fm⟩⟩
    ·omega
   rintro s H9 ⟨ET,hs⟩;have gG:=aaW.trans ET;have h9:=h.kept gG;obtain⟨ez,es,fm⟩ | ⟨r,q,ez,xX,cZ,iU,hL,ka,Co⟩:=hs
   ·
    skip
    refine bN .bK [0,1,2,3,4,5,6,7,8,9,10,11,12,13,14,15,16,17,18] follows (gV [0,1,3,7,15,31,63,127,63,511,1023,63,2111,63,14399,30783,65535,131071,262143] (by kernel_rfl)) ?_;refine aa 1 rfl (aG true rfl rfl (je (by omega)) (aa 17 rfl (ab [1,2,5,6,7,8,14,15,77] ?_)));refine cI rfl (eK .bK [0,1,2,3] follows (by kernel_rfl) ?_);refine vr 3 ?_;obtain⟨ti,aj,ak⟩:=aX;refine aI (.inl ⟨rfl,rfl⟩) rfl rfl rfl aj ak rfl rfl rfl (au (ah [1,2,5,6,14,15] rfl ?_));refine aA rfl (aF rfl rfl ⟨by omega,by omega⟩ (aa 1 rfl (au ?_)));exact⟨⟨y.i+1,y.i,t8⟩,(show m-(y.i+1)<m-y.i by omega),ar,gG,(show y.i+1≤m by omega),.inr ⟨y.i,_,rfl,Nat.lt_succ_self _,fi,eJ.le ET.le,aax fm rfl⟩⟩
   skip
   by_cases g1:s<0
   ·
    skip
    refine bN .bK [0,1,2,3,4,5,6,7,8,9,10,11,12,13,14,15,16,17,18] follows (gV [0,1,3,7,15,31,63,127,63,511,1023,63,2111,63,14399,30783,65535,131071,262143] (by kernel_rfl)) ?_;refine aa 1 rfl (aG true rfl rfl (je g1) (aa 17 rfl (ab [1,2,5,6,7,8,14,15,77] ?_)));refine cI rfl (eK .bK [0,1,2,3] follows (by kernel_rfl) ?_);refine vr 3 ?_;obtain⟨ti,aj,ak⟩:=aX;refine aI (.inl ⟨rfl,rfl⟩) rfl rfl rfl aj ak rfl rfl rfl (au (ah [1,2,5,6,14,15] rfl ?_));refine aA rfl (aF rfl rfl ⟨by omega,by omega⟩ (aa 1 rfl (au ?_)));exact⟨⟨y.i+1,y.i,t8⟩,(show m-(y.i+1)<m-y.i by omega),ar,gG,(show y.i+1≤m by omega),.inr ⟨y.i,_,rfl,Nat.lt_succ_self _,fi,eJ.le ET.le,MA hL rfl (.inl (ka.1 g1))⟩⟩
   skip
   by_cases g2:s=0
   ·
    skip
    by_cases g3:B y.i<B r
    ·
     skip
     refine bN .bK [0,1,2,3,4,5,6,7,8,9,10,11,12,13,14,15,16,17,18] follows (gV [0,1,3,7,15,31,63,127,63,511,1023,63,2111,63,14399,30783,65535,131071,262143] (by kernel_rfl)) ?_;refine aa 1 rfl (aG false rfl rfl (iq (by omega)) (aa 2 rfl (aG true rfl rfl (gi g2) (aa 4 rfl (aS ag rfl rfl rfl rfl rfl (mj gG y.i aO) (by rw[Int.toNat_natCast];exact gQ aO) (by omega) (by omega) fun _=> ?_)))));refine aa 3 rfl (aS ag rfl rfl rfl rfl rfl (mj gG y.i aO) (by rw[ez,Int.toNat_natCast];exact gQ (by omega)) (by omega) (by omega) fun _=> ?_);refine aG true rfl rfl (je (by omega)) (aa 2 rfl (ab [1,2,5,6,7,8,14,15,77] ?_));refine cI rfl (eK .bK [0,1,2,3] follows (by kernel_rfl) ?_);refine vr 3 ?_;obtain⟨ti,aj,ak⟩:=aX;refine aI (.inl ⟨rfl,rfl⟩) rfl rfl rfl aj ak rfl rfl rfl (au (ah [1,2,5,6,14,15] rfl ?_));refine aA rfl (aF rfl rfl ⟨by omega,by omega⟩ (aa 1 rfl (au ?_)));exact⟨⟨y.i+1,y.i,t8⟩,(show m-(y.i+1)<m-y.i by omega),ar,gG,(show y.i+1≤m by omega),.inr ⟨y.i,_,rfl,Nat.lt_succ_self _,fi,eJ.le ET.le,MA hL rfl (.inr ⟨Co.1 g2,g3⟩)⟩⟩
    skip
    refine bN .bK [0,1,2,3,4,5,6,7,8,9,10,11,12,13,14,15,16,17,18] follows (gV [0,1,3,7,15,31,63,127,63,511,1023,63,2111,63,14399,30783,65535,131071,262143] (by kernel_rfl)) ?_;refine aa 1 rfl (aG false rfl rfl (iq (by omega)) (aa 2 rfl (aG true rfl rfl (gi g2) (aa 4 rfl (aS ag rfl rfl rfl rfl rfl (mj gG y.i aO) (by rw[Int.toNat_natCast];exact gQ aO) (by omega) (by omega) fun _=> ?_)))));refine aa 3 rfl (aS ag rfl rfl rfl rfl rfl (mj gG y.i aO) (by rw[ez,Int.toNat_natCast];exact gQ (by omega)) (by omega) (by omega) fun _=> ?_);refine aG false rfl rfl (iq (by omega)) (aa 2 rfl (ab [1,2,5,6,7,8,14,15,77] ?_));refine dd rfl (aw (ah [1,2,5,6,14,15] rfl ?_));refine aA rfl (aF rfl rfl ⟨by omega,by omega⟩ (aa 1 rfl (au ?_)));exact⟨⟨y.i+1,y.z,y.t⟩,(show m-(y.i+1)<m-y.i by omega),ar,gG,(show y.i+1≤m by omega),.inr ⟨r,q,ez,Nat.lt_succ_of_lt xX,cZ,iU.le ET.le,My hL rfl (.inr ⟨Co.1 g2,g3⟩)⟩⟩
   skip
   refine bN .bK [0,1,2,3,4,5,6,7,8,9,10,11,12,13,14,15,16,17,18] follows (gV [0,1,3,7,15,31,63,127,63,511,1023,63,2111,63,14399,30783,65535,131071,262143] (by kernel_rfl)) ?_;refine aa 1 rfl (aG false rfl rfl (iq (by omega)) (aa 2 rfl (aG false rfl rfl (jn g2) (aa 14 rfl (ab [1,2,5,6,7,8,14,15,77] ?_)))));refine dd rfl (aw (ah [1,2,5,6,14,15] rfl ?_));refine aA rfl (aF rfl rfl ⟨by omega,by omega⟩ (aa 1 rfl (au ?_)));exact⟨⟨y.i+1,y.z,y.t⟩,(show m-(y.i+1)<m-y.i by omega),ar,gG,(show y.i+1≤m by omega),.inr ⟨r,q,ez,Nat.lt_succ_of_lt xX,cZ,iU.le ET.le,My hL rfl (.inl (by have k1:¬M y.i (W-1)/M y.i c<q:=fun k=>g1 (ka.2 k);have k2:¬M y.i (W-1)/M y.i c=q:=fun k=>g2 (Co.2 k);grind))⟩⟩
 ·
  have aO:m≤y.i:=by simpa using hb
  have aO:y.i=m:=by omega
  refine aU (ah [5] rfl ?_);refine ae (aa 2 rfl (ab [4] ?_));refine az ⟨.inr rfl,_,.tmp rfl (.nil),?_⟩;refine⟨y.z,rfl,fP,?_⟩;have h2:=hI
  unfold I4 at h2
  rw[aO]at h2
  rcases h2 with h9 | ⟨r,q,k1,k2,k3,_,k5⟩
  ·exact .inl h9
  ·exact .inr ⟨r,k1,k2,k3,q,k5⟩
theorem aaX{H:Heap}{G:GG}{W m u N:Nat}{M:Nat→Nat→Rat}{B:Nat→Nat}{Φ:av→Prop}{x:av}(h:cD iK H G (m+1) W m M B)(hu:u<W)(hm:(m:Int)≤900000)(hW:(W:Int)≤1000000)(dZ:∀T r s,Φ T→T.oQ u r s→Φ (T.pivot r s))(hx:Φ x)(hr:ie M B x m W)(Fs:Acc (av.Step u) x)(hB:∀i,i<m→B i<W)(hz:∀T,Φ T→∀j,j<W→aM (T.c j)≤N∧∀i,i<m→aM (T.A i j)≤N)(hN:(N:Int)≤200000000000):
 Fn Tryz.prog 57 #[.agg #[.slice G.Ar (m+1) G.cr,G.bv],.int .i64 (u:Int)] H (fun v H'=>∃M' B' b T,v = .bool b∧cD iK H' G (m+1) W m M' B'∧Heap.le (rem H G.gs) (rem H' G.gs)∧Φ T∧ie M' B' T m W∧(∀i,i<m→B' i<W)∧(b=true→∀j,j<u→0≤M' m j)∧(b=false→∃s,s<u∧M' m s<0∧∀i,i<m→M' i s≤0)):=by
 have yc:∀{M1:Nat→Nat→Rat}{B1:Nat→Nat}{T:av},Φ T→ie M1 B1 T m W→∀i,i<m+1→∀j,j<W→aM (M1 i j)≤N:=fun{M1 B1 T} hT hr i hi j hj=>by
  by_cases e:i=m
  ·rw[e,hr.ec j hj];exact(hz T hT j hj).1
  ·rw[hr.eA i (by omega) j hj];exact(hz T hT j hj).2 i (by omega)
 refine aY (args:=[_,_]) Tryz.func57 rfl rfl Tryz.ntmps57 rfl rfl fun w0=> ?_;refine ah [0,1] rfl ?_;refine ae (bZ rfl rfl (aa 1 rfl (ab [1,2] ?_)));refine aE (JQ (γ:=av) (av.Step u) (fun(y:av)=>put (put (emp) 1 (.val (.int .i64 (u:Int)))) 2 (.box [.slice G.Ar (m+1) G.cr,G.bv])) (fun(y:av) H'=>∃M1 B1,cD iK H' G (m+1) W m M1 B1∧Heap.le (rem H G.gs) (rem H' G.gs)∧Φ y∧ie M1 B1 y m W∧∀i,i<m→B1 i<W) (x) (Fs) ar (⟨M,B,h,.refl _,hx,hr,hB⟩) ?_);rintro y H1 ⟨M1,B1,h1,fF,tB,iW,zJ⟩;have mY:=yc tB iW;refine aE (ae (aa 2 rfl (aB rfl rfl (akt h1 (by omega) (fun j hj=>mY m (by omega) j (by omega)) hN (by omega) hW) ?_)));rintro _ H2 ⟨z,rfl,fP,hE⟩;have h2:=h1.kept fP;refine aa 1 rfl (ab [1,2,5] ?_);refine ao (ae (aa 2 rfl (ab [1,2,5,11] ?_)));refine aD rfl (fun hb=> ?_) (fun hb=> ?_)
 ·
  have hb:z<0:=by simpa using hb
  obtain⟨_,fm⟩:z = -1∧∀j,j<u→0≤M1 m j:=by
   rcases hE with h9 | ⟨s,h9,_⟩
   ·exact h9
   ·omega
  refine ae (aa 1 rfl (ab [4] ?_));refine az ⟨.inr rfl,_,.tmp rfl (.nil),?_⟩;exact⟨M1,B1,true,y,rfl,h2,fF.trans fP.le,tB,iW,zJ,fun _=>fm,(fun h9=>by cases h9)⟩
 ·
  have hb:¬z<0:=by simpa using hb
  obtain⟨s,rfl,IT,mB,R9⟩:∃s:Nat,z=(s:Int)∧s<u∧M1 m s<0∧∀j,j<s→0≤M1 m j:=by
   rcases hE with ⟨h9,_⟩ | h9
   ·omega
   ·exact h9
  refine aw (ah [1,2,5] rfl ?_);refine ae (aa 2 rfl (aB rfl rfl (aku h2 (by omega) (show s<W by omega) (fun i hi j hj=>mY i (by omega) j hj) hN (by omega) hW) ?_));rintro _ H3 ⟨z3,rfl,dz,IU⟩;have h3:=h2.kept dz;refine aa 1 rfl (ab [1,2,5,6] ?_);refine ao (ae (aa 2 rfl (ab [1,2,5,6,16] ?_)));refine aD rfl (fun hb=> ?_) (fun hb=> ?_)
  ·
   have hb:z3<0:=by simpa using hb
   have fm:∀i,i<m→M1 i s≤0:=by
    rcases IU with h9 | ⟨r,h9,_⟩
    ·exact h9.2
    ·omega
   refine ae (aa 1 rfl (ab [4] ?_));refine az ⟨.inr rfl,_,.tmp rfl (.nil),?_⟩;exact⟨M1,B1,false,y,rfl,h3,(fF.trans fP.le).trans dz.le,tB,iW,zJ,(fun h9=>by cases h9),fun _=>⟨s,IT,mB,fm⟩⟩
  have hb:¬z3<0:=by simpa using hb
  obtain⟨r,rfl,kG,cZ,q,hL⟩:∃r:Nat,z3=(r:Int)∧r<m∧0<M1 r s∧∃q,Lst M1 B1 (W-1) s m r q:=by
   rcases IU with ⟨h9,_⟩ | h9
   ·omega
   ·exact h9
  have kB:=iW.Gn (by omega) IT mB R9 kG cZ hL;have qK:=yc (dZ _ _ _ tB kB) (iW.pivot (M':=ma M1 r s) kG (by omega) fun _ _ _ _=>rfl);refine aw (ah [1,2,5,6] rfl ?_);refine aA rfl (aa 3 rfl (aB rfl rfl (aaP h3 kG (by omega) (show s<W by omega) (by grind) mY qK hN (by omega) hW) ?_));rintro v4 H4 ⟨M4,h4,SH,kC⟩;refine au ?_
  exact⟨y.pivot r s,⟨r,s,kB,rfl⟩,ar,M4,_,h4,((fF.trans fP.le).trans dz.le).trans kC,dZ _ _ _ tB kB,iW.pivot kG (by omega) SH,fun i hi=>by
   show (if i=r then s else B1 i)<W
   split
   ·omega
   ·exact zJ i hi⟩
end Go.aq
namespace Go.aq
open Go.Proofs Num Lp
end Go.aq
namespace Go.aq
open Go.Proofs Num Lp
theorem szc{n s N:Nat}(hn:n≤1000)(hs:s≤N+2)(hN:N≤400000000){k:Nat}(hk:k≤n):((k*(2*s+1)+1:Nat):Int)≤900000000000:=by
 have h1:k*(2*s+1)≤1000*(2*s+1):=Nat.mul_le_mul_right _ (by omega)
 omega
theorem MR:aM 0≤1:=by decide
theorem aaY{H:Heap}{u v:Value}{l1 l2:List Rat}{N:Nat}(hu:aN (dA N) 3 H u l1)(hv:aN (dA N) 3 H v l2)(hl:l1.length=l2.length)(hn:l1.length≤1000)(hN:N≤400000000):
 Fn Tryz.prog 56 #[u,v] H (Iv H (cH l1.length (fn l1) (fn l2))):=by
 have h1:=hu.B7
 have h2:=hv.B7
 obtain⟨A,c,ys,rfl,hc,hr,iE⟩:=hu
 obtain⟨A',c',ys',rfl,jA,dS,akv⟩:=hv
 have DH:=WC (f:=fn l1) (g:=fn l2) (s:=N+2) (n:=l1.length) (fun k hk=>⟨Pj h1 hk,Pj h2 (by omega)⟩)
 rw[←hl];refine aY (args:=[_,_]) Tryz.func56 rfl rfl Tryz.ntmps56 rfl rfl fun w0=> ?_;refine ah [0,1] rfl ?_;refine ae (bm cj rfl (ab [0,1,4] ?_));refine ae (aB rfl rfl ((lG (n:=0) (by decide) (by decide)).rc) ?_);rintro _ H1 ⟨bg,t1,rfl,bX⟩;rw[show ((0:Int):Rat)=0 from rfl]at bX;refine bm cj rfl ?_;obtain⟨ti,aj,ak⟩:=aX;refine aI (.inl ⟨rfl,rfl⟩) rfl rfl rfl aj ak rfl rfl rfl (ab [0,1,4,5] ?_);refine ao (ae (aa 1 rfl (ab [0,1,4,5,6] ?_)));refine aE (fX (fun(i:Nat)(t:RC)=>l1.length-i) (fun(i:Nat)(t:RC)=>put (put (put (put (put (emp) 0 (.val (.slice A l1.length c))) 1 (.val ((.slice A' l1.length c')))) 4 (.box [.bool false,.slice none 0 0,.slice none 0 0])) 5 (.box [.bool t.f,.slice t.A1 t.m1 t.c1,.slice t.A2 t.m2 t.c2])) 6 (.val (.int .i64 (i:Int)))) (fun(i:Nat)(t:RC) H'=>Heap.le H H'∧bH H' t.v (cH i (fn l1) (fn l2))∧i≤l1.length) 0 t1 (⟨bg,bX,Nat.zero_le _⟩) ar ?_);rintro i t H2 ⟨cA,bS,hi⟩;refine ao (ae (aa 5 rfl (U0 rfl rfl ?_)));rw[show (if ((l1.length:Nat):Int)<((l1.length:Nat):Int)then((l1.length:Nat):Int)else((l1.length:Nat):Int))=((l1.length:Nat):Int)from if_neg (by omega)];refine aa 1 rfl (ab [0,1,4,5,6,14] ?_)
 refine aD rfl (fun hb=> ?_) (fun hb=> ?_)
 ·
  have aO:i<l1.length:=by simpa using hb
  obtain⟨q,fT⟩:∃q,l1[i]? = some q:=⟨_,List.getElem?_eq_getElem aO⟩;obtain⟨q2,aaZ⟩:∃q,l2[i]? = some q:=⟨_,List.getElem?_eq_getElem (by omega)⟩;obtain⟨g5,B1,k1,e1,B2,k2,e2,I5,rz,wh⟩:=aN.s7 iE fT;obtain⟨g6,D1,n1,d1,D2,n2,d2,SI,wi,SJ⟩:=aN.s7 akv aaZ;have iZ:=m8 fT;have jN:=m8 aaZ;have mY:=DH i hi;have pI:=szc (s:=N+2) hn (Nat.le_refl _) hN hi;have qK:=sk q q2;have EU:=rz.size;have sQ:=wi.size;refine aw (ah [0,1,4,5,6] rfl ?_);refine ao (aE (eK .bK [0,1,2,3,4,5,6,7,8,9,10,11] follows (by kernel_rfl) ?_));refine aa 3 rfl (bY (vs:=[.bool g5,.slice B1 k1 e1,.slice B2 k2 e2]) ag rfl rfl rfl rfl (hr.le cA) rfl (by decide) wh (by omega) (by omega) fun _=>(aa 2 rfl (bY (vs:=[.bool g6,.slice D1 n1 d1,.slice D2 n2 d2]) ag rfl rfl rfl rfl (dS.le cA) rfl (by decide) SJ (by omega) (by omega) fun _=>(aW rfl rfl ((Ee (rz.le cA) (wi.le cA) (by omega)).rc) (fun _ _ h=>by first | exact h.le | exact h.1) ?_))));rintro _ H3 ⟨dK,t3,rfl,iD⟩;refine aW rfl rfl ((Ls (N:=900000000000) (((bH.raw bS).mono (by unfold cH;omega)).le dK) ((bH.raw iD).mono (by omega)) (by decide)).rc) (fun _ _ h=>by first | exact h.le | exact h.1) ?_;rintro _ H4 ⟨cM,t4,rfl,cn⟩;rw[←iZ,←jN,show cH i (fn l1) (fn l2)+fn l1 i*fn l2 i=cH (i+1) (fn l1) (fn l2)from rfl]at cn
  obtain⟨ti,aj,ak⟩:=aX;refine aI (.inl ⟨rfl,rfl⟩) rfl rfl rfl aj ak rfl rfl rfl (au (ah [0,1,4,5,6] rfl ?_));refine aA rfl (aa 1 rfl (aF rfl rfl ⟨by omega,by omega⟩ (aa 1 rfl (au ?_))));exact⟨i+1,t4,by omega,ar,cA.trans (dK.trans cM),cn,by omega⟩
 ·
  have hb:l1.length≤i:=by simpa using hb
  obtain rfl:i=l1.length:=by omega
  refine aU (ah [4,5] rfl ?_);refine ae (vr 1 ?_);obtain⟨ti,aj,ak⟩:=aX;refine aI (.inl ⟨rfl,rfl⟩) rfl rfl rfl aj ak rfl rfl rfl (ab [4] ?_);obtain⟨b8,aP,aQ⟩:=aX;refine az ⟨.inr rfl,_,.agg rfl Tryz.underlying38 aP aQ (.nil),?_⟩;exact⟨cA,t,rfl,bS⟩
end Go.aq
namespace Go.aq
open Go.Proofs Num Lp
end Go.aq
namespace Go.aq
open Go.Proofs Num Lp
end Go.aq
namespace Go.aq
open Go.Proofs Num Lp
def fB(r:List Rat×Int×Rat):List Rat×Int×Rat:=if kJ r.2.2 r.2.1=1 then r else(r.1.map (fun q=> -q),kr r.2.1 (-1),-r.2.2)
def akw(N:Nat)(r:List Rat×Int×Rat)(H:Heap)(v:Value)(H':Heap):Prop:=Heap.le H H'∧∃A0 c0 f A1 m1 c1 A2 m2 c2,v = .agg #[.slice A0 r.1.length c0,.int .i64 (fB r).2.1,.bool f,.slice A1 m1 c1,.slice A2 m2 c2]∧gB (N+2) H' [.slice A0 r.1.length c0,.int .i64 (fB r).2.1,.bool f,.slice A1 m1 c1,.slice A2 m2 c2] (fB r)
theorem gB.mono{N M:Nat}{H:Heap}{vs:List Value}{r:List Rat×Int×Rat}(h:gB N H vs r)(hl:N≤M):gB M H vs r:=by
 obtain⟨c,f,u,w,h1,h2,h3⟩:=h
 exact⟨c,f,u,w,h1,h2.mono fun vs q a=>dA.mono a hl,h3.mono hl⟩
theorem MS{r:List Rat×Int×Rat}(h:0<r.2.2∨(r.2.2=0∧r.2.1≠3)):fB r=r:=by
 have h1:¬(r.2.2<0∨(r.2.2=0∧r.2.1=3)):=by grind
 unfold fB kJ;rw[if_neg h1,if_pos rfl]
theorem aa0{r:List Rat×Int×Rat}(h:¬(0<r.2.2∨(r.2.2=0∧r.2.1≠3))):fB r=(r.1.map (fun q=> -q),kr r.2.1 (-1),-r.2.2):=by
 have h1:r.2.2<0∨(r.2.2=0∧r.2.1=3):=by grind
 unfold fB kJ;rw[if_pos h1,if_neg (by decide)]
theorem akx{l:List Rat}{f:Rat→Rat}{j:Nat}{q:Rat}(h:l[j]? = some q):(l.take (j+1)).map f=(l.take j).map f ++ [f q]:=by
 rw[List.take_add_one,h,List.map_append];rfl
theorem aky{H:Heap}{r:List Rat×Int×Rat}{N:Nat}{A0:Option Addr}{c0:Nat}{f:Bool}{A1:Option Addr}{m1 c1:Nat}{A2:Option Addr}{m2 c2:Nat}(hr:gB N H [.slice A0 r.1.length c0,.int .i64 r.2.1,.bool f,.slice A1 m1 c1,.slice A2 m2 c2] r)(hN:N≤400000000)(ua:r.1.length≤1000)(kM:r.2.1=1∨r.2.1=2∨r.2.1=3):
 Fn Tryz.prog 96 #[.agg #[.slice A0 r.1.length c0,.int .i64 r.2.1,.bool f,.slice A1 m1 c1,.slice A2 m2 c2]] H (akw N r H):=by
 have pL:cW H (.agg #[.bool f,.slice A1 m1 c1,.slice A2 m2 c2]) r.2.2 N:=gB.bound hr
 have pH:aN (dA N) 3 H (.slice A0 r.1.length c0) r.1:=gB.bU hr
 obtain⟨A0',c0',x0,e0,m7,wy,Ki⟩:=id pH
 cases e0
 have hbz:=pL.size
 have Lf:=pH.B7;refine aY (args:=[_]) Tryz.func96 rfl rfl Tryz.ntmps96 rfl rfl fun w0=> ?_;refine ah [0] rfl ?_;refine ae (bZ rfl rfl (bm kU rfl (ab [1,2] ?_)));refine ae (aa 2 rfl (aB rfl rfl (sO pL (by omega)) ?_));rintro _ H1 ⟨bg,rfl⟩;refine aa 1 rfl (ab [1,2,3] ?_);refine kT (fun(b:Bool)=>put (put (emp) 1 (.box [.slice A0 r.1.length c0,.int .i64 r.2.1,.bool f,.slice A1 m1 c1,.slice A2 m2 c2])) 2 (.box [.slice none 0 0,.int .i64 0,.bool false,.slice none 0 0,.slice none 0 0])) (fun(b:Bool) H'=>H'=H1∧fB r=(r.1.map (fun q=> -q),kr r.2.1 (-1),-r.2.2)) ?_ ?_
 ·
  by_cases g1:0<r.2.2
  ·
   skip
   refine ae (aa 1 rfl (aG true rfl rfl (oB (DT.2 g1)) (aa 9 rfl (ab [1,2,19] ?_))));refine cI rfl (ae (vr 1 ?_));obtain⟨ti,aj,ak⟩:=oA;refine aI (.inl ⟨rfl,rfl⟩) rfl rfl rfl aj ak rfl rfl rfl (ab [2] ?_);obtain⟨b8,aP,aQ⟩:=oA;refine az ⟨.inr rfl,_,.agg rfl Tryz.underlying80 aP aQ (.nil),?_⟩;exact⟨bg,A0,c0,f,A1,m1,c1,A2,m2,c2,by rw[MS (by grind)];rfl,by rw[MS (by grind)];exact lF _ _ _ _ _ bg (hr.mono (by omega))⟩
  ·
   skip
   by_cases g2:r.2.2=0
   ·
    skip
    by_cases g3:r.2.1=3
    ·
     skip
     refine ae (aa 1 rfl (aG false rfl rfl (kA (by have:=mt DT.1 g1;omega)) ?_));refine aa 2 rfl (aG true rfl rfl (gi (ug.2 g2)) (aa 3 rfl (aG false rfl rfl (wE g3) (aa 2 rfl (ab [1,2,19] ?_)))));refine dd rfl (aw ?_);exact⟨true,ar,rfl,aa0 (by grind)⟩
    skip
    refine ae (aa 1 rfl (aG false rfl rfl (kA (by have:=mt DT.1 g1;omega)) ?_));refine aa 2 rfl (aG true rfl rfl (gi (ug.2 g2)) (aa 3 rfl (aG true rfl rfl (vx g3) (aa 2 rfl (ab [1,2,19] ?_)))));refine cI rfl (ae (vr 1 ?_));obtain⟨ti,aj,ak⟩:=oA;refine aI (.inl ⟨rfl,rfl⟩) rfl rfl rfl aj ak rfl rfl rfl (ab [2] ?_);obtain⟨b8,aP,aQ⟩:=oA;refine az ⟨.inr rfl,_,.agg rfl Tryz.underlying80 aP aQ (.nil),?_⟩;exact⟨bg,A0,c0,f,A1,m1,c1,A2,m2,c2,by rw[MS (by grind)];rfl,by rw[MS (by grind)];exact lF _ _ _ _ _ bg (hr.mono (by omega))⟩
   skip
   refine ae (aa 1 rfl (aG false rfl rfl (kA (by have:=mt DT.1 g1;omega)) ?_));refine aa 2 rfl (aG false rfl rfl (jn (fun h=>g2 (ug.1 h))) (aa 6 rfl (ab [1,2,19] ?_)));refine dd rfl (aw ?_);exact⟨true,ar,rfl,aa0 (by grind)⟩
 ·
  rintro b H3 ⟨e3,hp⟩;rw[e3];clear e3 H3;refine bN .bK [0,1,2,3,4,5,6,7] follows (by kernel_rfl) ?_;refine aa 4 rfl (aW rfl rfl ((Ec (pL.le bg) (by omega)).rc) (fun _ _ h=>by first | exact h.le | exact h.1) ?_);rintro _ H2 ⟨cA,t4,rfl,cn⟩;have lh:=bg.trans cA;refine di ag rfl kU rfl rfl (bm kU rfl ?_);obtain⟨ti,aj,ak⟩:=oA;refine aI (.inl ⟨rfl,rfl⟩) rfl rfl rfl aj ak rfl rfl rfl (ab [1,2,4] ?_);refine kT (fun(rl:Int)=>put (put (put (emp) 1 (.box [.slice A0 r.1.length c0,.int .i64 r.2.1,.bool f,.slice A1 m1 c1,.slice A2 m2 c2])) 2 (.box [.slice none 0 0,.int .i64 0,.bool false,.slice none 0 0,.slice none 0 0])) 4 (.box [.slice none 0 0,.int .i64 rl,.bool t4.f,.slice t4.A1 t4.m1 t4.c1,.slice t4.A2 t4.m2 t4.c2])) (fun(rl:Int) H'=>H'=H2∧rl=kr r.2.1 (-1)) ?_ ?_
  ·
   refine ae (aa 3 rfl (ab [1,2,4,29] ?_));refine aD rfl (fun hb=> ?_) (fun hb=> ?_)
   ·
    have dg:¬r.2.1=2:=by simpa using hb
    refine aA rfl (aa 2 rfl (cQ rfl rfl ⟨by omega,by omega⟩ (vr 1 ?_)));obtain⟨ti,aj,ak⟩:=vq;refine aI (.inr rfl) rfl rfl rfl aj ak rfl rfl rfl (au ?_);exact⟨_,ar,rfl,by unfold kr;rw[if_neg (by decide),if_neg dg]⟩
   have dg:r.2.1=2:=by simpa using hb
   refine aw ?_;exact⟨_,ar,rfl,by unfold kr;rw[if_neg (by decide),if_pos dg];exact dg⟩
  rintro rl H3 ⟨e3,oV⟩;rw[e3];clear e3 H3;refine ao (ae (aa 4 rfl (ab [1,2,4,36,37] ?_)));refine aE (fD (fun(j:Nat)(w:Value)(MT:List Value)=>r.1.length-j) (fun(j:Nat)(w:Value)(MT:List Value)=>put (put (put (put (put (emp) 1 (.box [.slice A0 r.1.length c0,.int .i64 r.2.1,.bool f,.slice A1 m1 c1,.slice A2 m2 c2])) 2 (.box [.slice none 0 0,.int .i64 0,.bool false,.slice none 0 0,.slice none 0 0])) 4 (.box [w,.int .i64 rl,.bool t4.f,.slice t4.A1 t4.m1 t4.c1,.slice t4.A2 t4.m2 t4.c2])) 36 (.val (.int .i64 (r.1.length:Int)))) 37 (.val (.int .i64 (j:Int)))) (fun(j:Nat)(w:Value)(MT:List Value) H'=>eo cg 38 3 H2 H' w ((r.1.take j).map (fun q=> -q)) MT∧j≤r.1.length) 0 (.slice none 0 0) [] (⟨zD H2,Nat.zero_le _⟩) ar ?_);rintro j w MT H4 ⟨hG,hj⟩;obtain⟨F1,f1,rfl⟩:=hG.form
  have pe:((r.1.take j).map (fun q=> -q)).length=j:=by simp;omega
  refine ae (aa 1 rfl (ab [1,2,4,36,37,38] ?_));refine ao (aD rfl (fun hb=> ?_) (fun hb=> ?_))
  ·
   have gY:j<r.1.length:=by simpa using hb
   obtain⟨q,fT⟩:∃q,r.1[j]? = some q:=⟨_,List.getElem?_eq_getElem gY⟩;obtain⟨g6,G1,n1,o1,G2,n2,o2,SI,wi,SJ⟩:=aN.s7 Ki fT;refine aw (ah [1,2,4,36,37] rfl ?_);refine ao (aE (ae (aa 2 rfl (ab [1,2,4,5,36,37] ?_))));refine eK .bK [0,1,2,3,4,5,6,7,8,9,10,11] follows (by kernel_rfl) ?_;refine aa 5 rfl (bY (vs:=[.bool g6,.slice G1 n1 o1,.slice G2 n2 o2]) ag rfl rfl rfl rfl (wy.le (lh.trans hG.le)) rfl (by decide) SJ (by omega) (by omega) fun _=>(aW rfl rfl (hG.call (Ec (wi.le (lh.trans hG.base)) (by omega))) (fun _ _ h=>h.le fun _ _ h=>h.1) ?_));rintro _ H6 lO;have iJ:=hG.km ef lO fun _ _ h=>h.1;obtain⟨⟨_,nT⟩,_⟩:=lO;obtain⟨t6,rfl⟩:=nT.rc;refine cS Tryz.underlying28 cj rfl rfl rfl rfl rfl rfl rfl ?_;intro gc kI;have aa1:=iJ.ins ef (whole (ee [t6.v]) 38) kI;refine eD Tryz.underlying28 cj rfl rfl aa1.own (eN _ _ _ _ _ _) rfl (ED _ _ _ _ _ _ _) (by rw[pe];omega) (by rw[pe];omega) ?_;intro v7 H7 uW;have oa:=aa1.append ef (k:=[-q]) (by simp) uW (jq (ef _ _ _ _ (se _ (Heap.bI _ kI)) (show cg _ [_,_,_] _ from nT)) rfl);obtain⟨F7,f7,rfl⟩:=oa.form;refine vr 1 ?_;obtain⟨ti,aj,ak⟩:=Oc;refine aI (.inr rfl) rfl rfl rfl aj ak rfl rfl rfl ?_
   refine au (ah [1,2,4,36,37] rfl ?_);refine aA rfl (aF rfl rfl ⟨by omega,by omega⟩ (aa 1 rfl (au ?_)));exact⟨j+1,_,_,by omega,ar,by rw[akx fT];exact oa,by omega⟩
  have gY:r.1.length≤j:=by simpa using hb
  obtain rfl:j=r.1.length:=by omega
  rw[List.take_length]at hG pe;have cM:=lh.trans hG.le
  have ka:=(hG.sl ef).zC (N:=N+2) (fun q hq=>by
   obtain⟨q',tA,rfl⟩:=List.mem_map.1 hq
   rw[wX];exact Lf q' tA)
  rw[pe]at ka;refine aU (ah [2,4] rfl ?_);refine ae (vr 1 ?_);obtain⟨ti,aj,ak⟩:=oA;refine aI (.inl ⟨rfl,rfl⟩) rfl rfl rfl aj ak rfl rfl rfl (ab [2] ?_);obtain⟨b8,aP,aQ⟩:=oA;refine az ⟨.inr rfl,_,.agg rfl Tryz.underlying80 aP aQ (.nil),?_⟩
  skip
  simp only[List.take_length,pe]
  exact⟨cM,F1,f1,t4.f,t4.A1,t4.m1,t4.c1,t4.A2,t4.m2,t4.c2,by rw[hp,oV];rfl,by rw[hp,←oV];exact⟨_,_,_,_,rfl,ka,((bH.raw cn).mono (by rw[wX];omega)).le hG.le⟩⟩
end Go.aq
namespace Go.aq
open Go.Proofs Num Lp
theorem yd{α:Type}{l:List α}{k n:Nat}{a:α}(h:l[k]? = some a)(hk:k<n):(fill l n)[k]? = some (some a):=by
 unfold fill
 have hl:=(List.getElem?_eq_some_iff.1 h).1
 rw[List.getElem?_append_left (by rw[List.length_map,List.length_take];omega),List.getElem?_map,List.getElem?_take,if_pos hk,h];rfl
theorem akz{f:Nat→Rat}{W k:Nat}{q:Rat}(hk:k<W):(fill (aK f W) (k+1)).set k (some q)=fill (aK (bT f k q) W) (k+1):=by
 apply List.ext_getElem?
 intro i
 have hl:=m9 (l:=aK f W) (k:=k+1) (by rw[bh];omega)
 have kQ:=m9 (l:=aK (bT f k q) W) (k:=k+1) (by rw[bh];omega)
 rw[bh]at hl kQ
 by_cases hi:i<W
 ·by_cases e:i=k
  ·subst e
   rw[List.getElem?_set_self (by omega),yd (dD hi) (Nat.lt_succ_self _),re]
  ·rw[List.getElem?_set_ne (fun e'=>e e'.symm)]
   by_cases h2:i<k+1
   ·rw[yd (dD hi) h2,yd (dD hi) h2,pc e]
   ·unfold fill
    rw[List.getElem?_append_right (by simp;omega),List.getElem?_append_right (by simp;omega)]
    simp[bh]
 ·rw[List.getElem?_eq_none (by rw[List.length_set];omega),List.getElem?_eq_none (by omega)]
theorem akA{W k n:Nat}{xs:List Value}{f:Nat→Rat}(h:qb W xs f n)(hk:k<n)(hn:n≤W):∃a d:Int,fA [.int .i64 a,.int .i64 d] (f k)∧∀(j:Nat)(v:Value),[.int .i64 a,.int .i64 d][j]? = some v→xs[k*2+j]? = some v:=by
 have h:bG _ _ _ _:=h
 obtain⟨vs,_,h2,h3⟩:=h.get (yd (dD (f:=f) (n:=W) (show k<W by omega)) hk)
 have h2:fA vs (f k):=h2
 obtain⟨a,d,rfl,h4⟩:=id h2
 exact⟨a,d,h2,h3⟩
theorem akB{W k:Nat}{xs vs:List Value}{f:Nat→Rat}{q:Rat}(h:qb W xs f (k+1))(hk:k<W)(hv:fA vs q):qb W (aL xs (k*2) vs) (bT f k q) (k+1):=by
 show bG _ _ _ _
 rw[←akz hk]
 have h:bG _ _ _ _:=h
 exact h.set (by rw[m9 (by rw[bh];omega),bh];exact hk) (show iw rj _ vs (some q)from hv) (by obtain⟨a,b,rfl,_⟩:=hv;rfl)
theorem akC{W k:Nat}{xs:List Value}{f f':Nat→Rat}(h:qb W xs f k)(he:∀j,j<k→f' j=f j):qb W xs f' k:=by
 have h:bG _ _ _ _:=h
 refine⟨by rw[h.len];simp[fill,bh],fun i a ha=> ?_⟩
 unfold fill at ha
 by_cases hi:i<((aK f' W).take k).length
 ·rw[List.getElem?_append_left (by rw[List.length_map];exact hi),List.getElem?_map,List.getElem?_take]at ha
  rw[List.length_take,bh]at hi
  rw[if_pos (by omega),dD (by omega)]at ha
  cases ha
  have h2:=h.at_ i _ (yd (dD (f:=f) (n:=W) (show i<W by omega)) (show i<k by omega))
  rw[he i (by omega)];exact h2
 ·rw[List.getElem?_append_right (by rw[List.length_map];omega)]at ha
  have:=(List.getElem?_eq_some_iff.1 ha).2
  rw[List.getElem_replicate]at this
  subst this;trivial
structure QY(o:Bool)(K H:Heap)(g:Nat)(G:GG)(R W m:Nat)(M:Nat→Nat→Rat)(B:Nat→Nat)(z:Nat)(f:Nat→Rat)(k:Nat):Prop where
 q:QV o H g (G.on (z::G.top)) R W m M B
 row:∃xs,H z=some ⟨xs,W*2,138,true⟩∧qb W xs f k
 ne:z≠g
 le:Heap.le K (rem H (G.on (z::G.top)).gs)
section
variable {o o':Bool} {K H H':Heap} {g:Nat} {G:GG} {R W m z k:Nat} {M:Nat→Nat→Rat} {B:Nat→Nat} {f:Nat→Rat}
theorem QY.put(h:QY o K H g G R W m M B z f k)(ht:fU (G.on (z::G.top)).gs g H H')(iG:H' g=some ⟨[.slice G.Ar R G.cr,G.bv,.bool o'],3,135,true⟩){xs:List Value}{f':Nat→Rat}{k':Nat}(iE:qb W xs f' k'):QY o' K (ins H' z ⟨xs,W*2,138,true⟩) g G R W m M B z f' k':=by
 have h1:=h.q.vc ht iG
 have hm:z∈(G.on (z::G.top)).gs:=QZ.mO
 have hT:fU (G.on (z::G.top)).gs z H' (ins H' z ⟨xs,W*2,138,true⟩):=((Kept.refl _ _).iI z).ins hm _
 exact⟨⟨h1.de.Ch (List.mem_cons_self ..) hT (by rw[bC];simp),h1.gt,by rw[bn _ _ (Ne.symm h.ne)];exact h1.st⟩,⟨_,bC _ _ _,iE⟩,h.ne,h.le.trans (ht.le.trans hT.le)⟩
end
def rA(p:Prg)(M:Nat→Nat→Rat)(k i:Nat):Rat:=if k<p.u∨k=p.w then-aZ i (fun q=>if p.u≤p.unit q then M q k else 0)else 0
theorem aa2{p:Prg}{M:Nat→Nat→Rat}{k:Nat}:rA p M k 0=0:=by
 unfold rA;split
 ·show -0=(0:Rat);grind
 ·rfl
theorem aa3{p:Prg}{M:Nat→Nat→Rat}{k i:Nat}(h:p.u≤p.unit i∧(k<p.u∨k=p.w)):rA p M k (i+1)=rA p M k i-M i k:=by
 unfold rA;rw[if_pos h.2,if_pos h.2,gn,if_pos h.1];grind
theorem aa4{p:Prg}{M:Nat→Nat→Rat}{k i:Nat}(h:¬(p.u≤p.unit i∧(k<p.u∨k=p.w))):rA p M k (i+1)=rA p M k i:=by
 unfold rA
 by_cases h2:k<p.u∨k=p.w
 ·rw[if_pos h2,if_pos h2,gn,if_neg (fun h1=>h ⟨h1,h2⟩)];grind
 ·rw[if_neg h2,if_neg h2]
theorem aa5{p:Prg}{M:Nat→Nat→Rat}{k:Nat}:rA p M k p.lp.m=ru p M k:=rfl
def wid(p:Prg)(i:Nat):Nat:=if i=0 then p.u+1 else p.w+1
theorem akD{p:Prg}:wid p p.lp.m=p.w+1:=by
 unfold wid
 split
 ·rename_i h
  have e:p.w=p.u:=by show a8 _ _ _ p.lp.m=_;rw[h];rfl
  omega
 ·rfl
theorem akE(l:List Rat):aK (fn l) l.length=l:=by
 apply List.ext_getElem?
 intro j
 by_cases hj:j<l.length
 ·rw[dD hj,List.getElem?_eq_getElem hj,m8 (List.getElem?_eq_getElem hj)]
 ·rw[List.getElem?_eq_none (by rw[bh];omega),List.getElem?_eq_none (by omega)]
theorem cg.rc{H:Heap}{vs:List Value}{q:Rat}(h:cg H vs q):∃t:RC,vs = [.bool t.f,.slice t.A1 t.m1 t.c1,.slice t.A2 t.m2 t.c2]∧bH H t.v q:=by
 obtain⟨t,e⟩:=bH.rc (show bH H (.agg vs.toArray) q from h)
 have h2:=DK e
 refine⟨t,h2,?_⟩
 rw[←e];exact h
theorem dA.rc{H:Heap}{vs:List Value}{q:Rat}{N:Nat}(h:dA N H vs q):∃t:RC,vs = [.bool t.f,.slice t.A1 t.m1 t.c1,.slice t.A2 t.m2 t.c2]∧cW H t.v q N:=by
 obtain⟨f,A,m,c,A',m',c',rfl⟩:=dA.cells h
 exact⟨⟨f,A,m,c,A',m',c'⟩,rfl,h⟩
theorem QV.th{o:Bool}{H:Heap}{g:Nat}{G:GG}{R W m:Nat}{M:Nat→Nat→Rat}{B:Nat→Nat}(h:QV o H g G R W m M B):∃Ab cb,G.bv = .slice Ab m cb∧∀{o' H' R' M' B'},QV o' H' g G R' W m M' B'→∀i,i<m→Rd H' Ab (eP B' m):=by
 rcases h.de.basis with ⟨h1,h2,h3⟩ | ⟨gb,cb,sz,h1,h2,h3⟩
 ·exact⟨none,0,by rw[h3,h1],fun _ i hi=>by omega⟩
 ·refine⟨_,cb,h2,fun h' i hi=> ?_⟩
  rcases h'.de.basis with ⟨k1,k2,k3⟩ | ⟨Cn,EL,qm,k1,k2,k3⟩
  ·omega
  ·rw[h1]at k1;cases k1;exact dQ k3
theorem Rd.at{H:Heap}{ad:Addr}{xs:List Value}(h:Rd H (some ad) xs):∀(i:Nat)(v:Value),xs[i]? = some v→cell H (ad.add i)=some v:=fun i v hv=>by
 obtain⟨JW,h1,h2⟩:=h i v hv
 cases h1;exact h2
theorem QZ.iI{o:Bool}{S H:Heap}{g:Nat}{G:GG}{R W m z:Nat}{M:Nat→Nat→Rat}{B:Nat→Nat}{f:Nat→Rat}(h:QZ o (rem S G.gs) S H g G R W m M B z f):fU G.gs g S H:=⟨h.le.trans (OU H z G.gs),h.same⟩
theorem MU{H H':Heap}{v v':Value}{e n:Nat}{rg:List (Nat×Nat)}{W z c:Nat}(h:App H v e 1 n (iV rg W ++ [Value.slice (some ⟨z,0,none⟩) W c]) v' H'):App H v e 1 n (iV (rg ++ [(z,c)]) W) v' H':=by
 unfold iV at h⊢;rw[List.map_append];exact h
theorem aa6{rg:List (Nat×Nat)}{W z c:Nat}:iV rg W++ee [Value.slice (some ⟨z,0,none⟩) W c]=iV (rg ++ [(z,c)]) W:=by
 unfold iV;rw[List.map_append];rfl
theorem akF{B:Nat→Nat}{m:Nat}:∀u,u∈eP B m→u.oneCell'=true:=fun u hu=>by
 obtain⟨i,_,rfl⟩:=List.mem_map.1 hu
 rfl
theorem aa7{n d:Int}:∀u,u∈ee [Value.agg #[.int .i64 n,.int .i64 d]]→u.oneCell'=true:=fun u hu=>by
 have hu:u∈[Value.int .i64 n,.int .i64 d]:=hu
 simp only[List.mem_cons,List.not_mem_nil,or_false]at hu
 rcases hu with rfl | rfl <;> rfl
theorem QV.Cw{o:Bool}{H:Heap}{g:Nat}{G:GG}{R W m:Nat}{M M':Nat→Nat→Rat}{B:Nat→Nat}(h:QV o H g G R W m M B)(hM:∀i,i<R→∀j,j<W→M' i j=M i j):QV o H g G R W m M' B:=⟨h.de.congr hM fun _ _=>rfl,h.gt,h.st⟩
theorem akG{H:Heap}{bv:Value}{B:Nat→Nat}{M:Nat→Nat→Rat}{m W g:Nat}(ho:bW H bv 3 1 m (eP B m))(hg:H g=none):∃G:GG,(G.top = [g]∧G.gs=g::aC bv)∧QV false (ins H g ⟨[.slice none 0 0,bv,.bool false],3,135,true⟩) g G 0 W m M B:=by
 have hn:∀q,q∈aC bv→q≠g:=fun q hq e=>by
  obtain⟨en,he⟩:=ho.block (dh.1 hq)
  rw[e,hg]at he;cases he
 refine⟨⟨[g],[],aC bv,bv,[],none,0⟩,⟨rfl,?_⟩,⟨⟨?_,fun q hq=> ?_,rfl,rfl,lv _ _ _,fun i p hp=> ?_,?_⟩,List.mem_singleton.2 rfl,bC _ _ _⟩⟩
 ·show [g]++([]++(aC bv ++ []))=_
  simp
 ·show ([g]++([]++(aC bv ++ []))).Nodup
  simp only[List.nil_append,List.append_nil,List.singleton_append]
  exact List.nodup_cons.2 ⟨fun hm=>hn g hm rfl,RP _⟩
 ·rw[List.mem_singleton.1 hq,bC];simp
 ·have hp:([]:List (Nat×Nat))[i]? = some p:=hp
  simp at hp
 ·rcases ho.2 with ⟨h1,h2⟩ | ⟨gb,cap,h1,h2,_⟩
  ·exact .inl ⟨h2,by show aC bv = [];rw[h1];rfl,h1⟩
  ·refine .inr ⟨gb,cap,cap*1,by show aC bv = [gb];rw[h1];rfl,h1,?_⟩
   rw[bn _ _ (hn gb (by rw[h1];exact List.mem_singleton.2 rfl))];exact h2
theorem akH{H1 H2:Heap}{bv:Value}{B:Nat→Nat}{M:Nat→Nat→Rat}{m W g:Nat}{G:GG}{xs:List Value}(h:QV false (ins H2 g ⟨[.slice none 0 0,bv,.bool false],3,135,true⟩) g G 0 W m M B)(ha:App H1 (.slice none 0 0) 3 1 m xs bv H2)(hg:H2 g=none)(hG:G.top = [g]∧G.gs=g::aC bv):Heap.le H1 (rem (ins H2 g ⟨[.slice none 0 0,bv,.bool false],3,135,true⟩) G.gs):=fun q en hq=>by
 have h1:=ha.same q en hq fun e=>by cases e
 have h2:q≠g:=fun e=>by rw[e,hg]at h1;cases h1
 refine⟨en,?_,.refl _⟩
 rw[bM,bn _ _ h2]
 ·exact h1
 ·rw[hG.2]
  intro hm
  rcases List.mem_cons.1 hm with hm | hm
  ·exact h2 hm
  ·rcases ha.new q hm with h3 | h3
   ·cases h3
   ·rw[h3]at hq;cases hq
def QkP(p:Prg)(c:List Rat)(st:Int)(xv:Value)(H:Heap):Prop:=(st=1∧∃x,aN cg 3 H xv x∧x.length=p.free.length∧od p c 1 (cH p.free.length (fn c) (fn x))∧∀q,q∈x→aM q≤17)∨(st≠1∧od p c st 0)
theorem akI{H:Heap}{p:Prg}{c:List Rat}{pv cv:Value}{Ar Ab:Option Addr}{cr cb N N0:Nat}{rg:List (Nat×Nat)}(bO:p.Ok)(fj:c.length=p.free.length)(hp:nt N H pv p)(hc:aN (dA N) 3 H cv c)(hN:(N:Int)≤4398046511000)(ht:IY H Ar Ab rg p.lp.m (p.w+1) (dM p) p.unit)(hz:∀i,i<p.lp.m→∀j,j≤p.w→aM (dM p i j)≤N0)(DM:(N0:Int)≤4398046511000):
 Fn Tryz.prog 55 #[pv,cv,.agg #[.slice Ar p.lp.m cr,.slice Ab p.lp.m cb],.int .i64 (p.u:Int)] H (fun v H'=>∃st xv b,v = .tuple #[.int .i64 st,xv,.bool b]∧Heap.le H H'∧(b=true→QkP p c st xv H')):=by
 obtain⟨fv,kK,rfl,nx,ny⟩:=id hp
 obtain⟨Ac,cc,xc,rfl,L1,nP,uc⟩:=id hc
 have pJ:=HD p
 have SK:=bO.pP
 have MV:=bO.rows
 have akJ:p.lp.m≤800:=MV
 have aa8:p.lp.n≤400:=SK
 have mG:=fy p
 have akK:=mI p;refine aY (args:=[_,_,_,_]) Tryz.func55 rfl rfl Tryz.ntmps55 rfl rfl fun w0=> ?_;refine ah [0,1,2,3] rfl ?_;refine ae (bZ rfl rfl (bZ rfl rfl (aa 3 rfl (ab [1,3,4,6] ?_))));refine Mo 4 rfl fun g4 e4 BG=> ?_;have Bw:Rd (ins H g4 ⟨[fv,kK],2,e4,true⟩) (some ⟨g4,0,none⟩) [fv,kK]:=eN _ _ _ _ _ _;have cM:Heap.le H (ins H g4 ⟨[fv,kK],2,e4,true⟩):=Heap.bI _ BG
 show VC _ _ _ _ _ _ _ (ins H g4 ⟨[fv,kK],2,e4,true⟩)
 generalize ins H g4 ⟨[fv,kK],2,e4,true⟩=H1 at *
 have zQ:=ht.le cM;refine ae (aa 2 rfl (eD Tryz.underlying49 fE rfl rfl (lv H1 3 1) (zQ.th) (by rw[Bt,Nat.mul_one]) (akF) (by omega) (by omega) ?_));intro bv H2 lR;rw[List.nil_append,Nat.zero_add]at lR;obtain⟨A2,c2,rfl⟩:=lR.own.form;refine di ag rfl aex rfl rfl (JX rfl rfl ?_);intro g hg;obtain⟨G0,akL,mm⟩:=akG (M:=dM p) (W:=p.w+1) lR.own hg;have ui:Heap.le H1 (rem (ins H2 g ⟨[.slice none 0 0,.slice A2 p.lp.m c2,.bool false],3,135,true⟩) G0.gs):=akH mm lR hg akL;refine aa 1 rfl (ab [1,3,4,6,11] ?_);refine ae (aa 1 rfl (aF rfl rfl ⟨by omega,by omega⟩ (aa 1 rfl (ab [1,3,4,6,11,12] ?_))));refine ao (ae (aa 4 rfl (ab [1,3,4,11,12,39,40,41] ?_)));refine aE (fX (fun(i:Nat)(G:GG)=>p.lp.m-i) (fun(i:Nat)(G:GG)=>put (put (put (put (put (put (put (put (emp) 1 (.val (.slice Ac c.length cc))) 3 (.val (.int .i64 (p.u:Int)))) 4 (.val (.pointer (some ⟨g4,0,none⟩)))) 11 (.val (.pointer (some ⟨g,0,none⟩)))) 12 (.val (.int .i64 (wid p i:Int)))) 39 (.val (.slice Ar p.lp.m cr))) 40 (.val (.int .i64 (p.lp.m:Int)))) 41 (.val (.int .i64 (i:Int)))) (fun(i:Nat)(G:GG) H'=>QV false H' g G i (p.w+1) p.lp.m (dM p) p.unit∧Heap.le H1 (rem H' G.gs)∧i≤p.lp.m) 0 G0 (⟨mm,ui,Nat.zero_le _⟩) (by repeat (first | exact iN _ | refine dB rfl ?_ | refine dB (jb (by first | omega | (simp;done) | (simp[wid];done))) ?_)) ?_)
 rintro i G H3 ⟨hq,hl,hi⟩;have hlH:=cM.trans (hl.trans (bF _ _));refine ae (aa 1 rfl (ab [1,3,4,11,12,39,40,41,42] ?_));refine ao (aD rfl (fun hb=> ?_) (fun hb=> ?_))
 ·
  have aO:i<p.lp.m:=by simpa using hb
  obtain⟨pi,cX⟩:∃pi,rg[i]? = some pi:=⟨_,List.getElem?_eq_getElem (by rw[ht.len];exact aO)⟩;obtain⟨xp,gT,hep⟩:=zQ.row i pi cX;refine aw (ah [1,3,4,11,39,40,41] rfl ?_);refine ao (aE (ae (aS ag rfl rfl rfl rfl rfl (zQ.kX.le (hl.trans (bF _ _))) (by rw[Int.toNat_natCast];exact kp cX) (by omega) (by omega) fun _=> ?_)));refine aa 1 rfl (ab [1,3,4,11,14,39,40,41] ?_);refine ae (aa 2 rfl (gO Tryz.underlying136 fQ rfl rfl rfl (by omega) (by omega) (by omega) (by omega) ?_));intro z I6;have sW:=aki (P:=rj) (e:=138) (sz:=2) (zs:=[.int .i64 0,.int .i64 0]) (z:=0) (k:=((p.w+1:Nat):Int)) (c:=p.w+1) I6 rfl (Int.toNat_natCast _) (by unfold maxLen;omega) hq.de.ne;rw[Int.toNat_natCast]at sW⊢;refine aa 1 rfl (ab [1,3,4,11,14,15,39,40,41] ?_);refine ao (ae (aa 3 rfl (ab [1,3,4,11,15,39,40,41,48,49,50] ?_)));refine aE (fD (fun(j:Nat)(w:Value)(xs:List Value)=>p.w+1-j) (fun(j:Nat)(w:Value)(xs:List Value)=>put (put (put (put (put (put (put (put (put (put (put (emp) 1 (.val (.slice Ac c.length cc))) 3 (.val (.int .i64 (p.u:Int)))) 4 (.val (.pointer (some ⟨g4,0,none⟩)))) 11 (.val (.pointer (some ⟨g,0,none⟩)))) 15 (.val (w))) 39 (.val (.slice Ar p.lp.m cr))) 40 (.val (.int .i64 (p.lp.m:Int)))) 41 (.val (.int .i64 (i:Int)))) 48 (.val (.slice (some ⟨pi.1,0,none⟩) (p.w+1) pi.2))) 49 (.val (.int .i64 ((p.w+1:Nat):Int)))) 50 (.val (.int .i64 (j:Int)))) (fun(j:Nat)(w:Value)(xs:List Value) H'=>gH G.gs H3 rj 138 2 H' w (aK (dM p i) j) xs∧j≤p.w+1) 0 _ _ (⟨sW,Nat.zero_le _⟩) ar ?_)
  rintro j w xs H5 ⟨hX,hj⟩;obtain⟨A5,c5,e5⟩:=hX.form;rw[bh]at e5;subst e5;have I7:=hl.trans hX.base;refine ae (aa 1 rfl (ab [1,3,4,11,15,39,40,41,48,49,50,51] ?_));refine ao (aD rfl (fun hb=> ?_) (fun hb=> ?_))
  ·
   have hjW:j<p.w+1:=by simp at hb;omega
   obtain⟨vs,_,rB,mP⟩:=hep.get (dD hjW);obtain⟨t,rfl,I8⟩:=cg.rc rB;have hzj:=hz i aO j (by omega);refine aw (ah [1,3,4,11,15,39,40,41,48,49,50] rfl ?_);refine ao (aE (ae (bY (vs:=[.bool t.f,.slice t.A1 t.m1 t.c1,.slice t.A2 t.m2 t.c2]) ag rfl rfl rfl rfl (gT.le (I7.trans (bF _ _))) rfl (by decide) (by rw[Int.toNat_natCast];exact mP) (by omega) (by omega) fun _=> ?_)));refine bm cj rfl ?_;obtain⟨ti,aj,ak⟩:=aX;refine aI (.inl ⟨rfl,rfl⟩) rfl rfl rfl aj ak rfl rfl rfl (ab [1,3,4,11,15,17,39,40,41,48,49,50] ?_);refine ae (aa 1 rfl (aB rfl rfl (hX.call (ZR (N:=N0) ((bH.raw (I8.le I7)).mono hzj) DM)) ?_));rintro _ H6 lO;have wj:=hX.km zN lO fun _ _ h=>h.1;obtain⟨⟨_,n6,d6,b6,rfl,ni⟩,_⟩:=lO;refine aa 3 rfl (bm fQ rfl ?_);obtain⟨ti,aj,ak⟩:=eF;refine aI (.inl ⟨rfl,rfl⟩) rfl rfl rfl aj ak rfl rfl rfl (aa 1 rfl (ab [1,3,4,11,15,18,19,39,40,41,48,49,50] ?_));refine ao (ae (aa 2 rfl (ab [1,3,4,11,15,18,39,40,41,48,49,50,60] ?_)));refine aD rfl (fun hb=> ?_) (fun hb=> ?_)
   ·
    skip
    refine ae (aa 3 rfl (ab [8,9,10] ?_));refine az ⟨.inr rfl,_,.tmp rfl (.tmp rfl (.tmp rfl (.nil))),?_⟩;exact⟨0,.slice none 0 0,false,rfl,cM.trans (hl.trans (wj.base.trans (bF _ _))),fun h9=>by cases h9⟩
   have kS:=ni (by simpa using hb);refine aw (ah [1,3,4,11,15,18,39,40,41,48,49,50] rfl ?_);refine aA rfl (aa 2 rfl (cS Tryz.underlying136 fQ rfl rfl rfl rfl rfl rfl rfl ?_));intro gb a6;have zR:=wj.ins zN (whole (ee [.agg #[.int .i64 n6,.int .i64 d6]]) 138) a6;refine eD Tryz.underlying136 fQ rfl rfl zR.own (eN _ _ _ _ _ _) rfl aa7 (by rw[bh];omega) (by rw[bh];omega) ?_;intro W9 H7 uW;have SL:=zR.append zN (j:=[dM p i j]) (by simp) uW (jq (show rj _ [_,_] _ from kS) rfl);refine aa 1 rfl (au (ah [1,3,4,11,15,39,40,41,48,49,50] rfl ?_));refine aA rfl (aF rfl rfl ⟨by omega,by omega⟩ (aa 1 rfl (au ?_)));exact⟨j+1,_,_,by omega,ar,by rw[xA];exact SL,by omega⟩
  ·
   have hjW:p.w+1≤j:=by simp at hb;omega
   obtain rfl:j=p.w+1:=by omega
   obtain⟨z,cz,ez,hzb⟩:=P9 hX.own (by rw[bh];omega);rw[bh]at ez;have e1:=(Value.slice.inj ez).1;have e2:=(Value.slice.inj ez).2.2;subst e1;subst e2;clear ez;obtain⟨hgX,akM,heX⟩:=hX.de hq.de;have hqX:QV false H5 g (G.on (z::G.top)) i (p.w+1) p.lp.m (dM p) p.unit:=⟨hgX,List.mem_cons_of_mem _ hq.gt,(hX.same g hq.mem).trans hq.st⟩;have nS:z≠g:=fun e9=>hX.apart g hq.mem (by rw[←e9];exact List.mem_singleton.2 rfl);have SM:pa wa (rem H5 (G.on (z::G.top)).gs) H5 z (aK (dM p i) (p.w+1)):=⟨_,_,hzb,hX.jG⟩;refine aU (ah [1,3,4,11,15,39,40,41] rfl ?_);refine aA rfl (aa 3 rfl (aV ag rfl rfl rfl (aR ag rfl rfl rfl (hqX.iS) (aa 1 rfl (cS Tryz.underlying133 C5 rfl rfl rfl rfl rfl rfl rfl ?_)))));intro gb a6;obtain⟨vB,tj⟩:=hqX.fresh (e:=whole [.slice (some ⟨z,0,none⟩) (p.w+1) c5] 136) a6;have SN:pa wa (rem (ins H5 gb (whole [.slice (some ⟨z,0,none⟩) (p.w+1) c5] 136)) (G.on (z::G.top)).gs) (ins H5 gb (whole [.slice (some ⟨z,0,none⟩) (p.w+1) c5] 136)) z (aK (dM p i) (p.w+1)):=SM.le tj (bn _ _ fun(e9:z=gb)=>by rw[←e9,hzb]at a6;cases a6);refine eD Tryz.underlying133 C5 rfl rfl vB.de.rows (eN _ _ _ _ _ _) rfl (BP _ _ _) (by omega) (by omega) ?_;intro v8 H8 nV;obtain⟨A8,c8,rfl⟩:=nV.own.form
   rw[show iV (G.on (z::G.top)).rg (p.w+1)++ee [Value.slice (some ⟨z,0,none⟩) (p.w+1) c5]=iV (G.rg ++ [(z,c5)]) (p.w+1)from aa6]at nV;obtain⟨fu,ea,EW⟩:=vB.more (G:=G) hq.gt nS SN nV
   have fu:=fu.Cw fun i' eZ j' Ml=>show dM p i' j'=(if i'=i then dM p i else dM p i') j' by split <;> simp_all
   have ea:=(hl.trans akM).trans (tj.trans ea);refine aa 3 rfl (aV ag rfl rfl rfl ?_);obtain⟨ti,aj,ak⟩:=J7;refine j9 (g:=g) (o:=0) (.inl rfl) rfl EW rfl (by show 0+1≤3;omega) aj ak rfl rfl rfl rfl ?_;refine aa 1 rfl (au (ah [1,3,4,11,12,39,40,41] rfl ?_));refine aA rfl (aF rfl rfl ⟨by omega,by omega⟩ (aa 1 rfl (au ?_)))
   have e8:wid p (i+1)=p.w+1:=by unfold wid;rw[if_neg (by omega)]
   exact⟨i+1,_,by omega,ar,fu,ea,by omega⟩
 ·
  have aO:p.lp.m≤i:=by simpa using hb
  obtain rfl:i=p.lp.m:=by omega
  rw[akD];have sW:=RD (P:=rj) (e:=138) (sz:=2) hq.de.ne;refine aU (ah [1,3,4,11,12] rfl ?_);refine ae (aa 1 rfl (ab [1,3,4,11,12,20] ?_));refine ao (ae (aa 3 rfl (ab [3,4,11,12,20,79,80,81] ?_)));refine aE (fD (fun(j:Nat)(w:Value)(xs:List Value)=>c.length-j) (fun(j:Nat)(w:Value)(xs:List Value)=>put (put (put (put (put (put (put (put (emp) 3 (.val (.int .i64 (p.u:Int)))) 4 (.val (.pointer (some ⟨g4,0,none⟩)))) 11 (.val (.pointer (some ⟨g,0,none⟩)))) 12 (.val (.int .i64 ((p.w+1:Nat):Int)))) 20 (.val (w))) 79 (.val (.slice Ac c.length cc))) 80 (.val (.int .i64 (c.length:Int)))) 81 (.val (.int .i64 (j:Int)))) (fun(j:Nat)(w:Value)(xs:List Value) H'=>gH G.gs H3 rj 138 2 H' w (aK (fn c) j) xs∧j≤c.length) 0 _ _ (⟨sW,Nat.zero_le _⟩) ar ?_);rintro j w xs H5 ⟨hX,hj⟩;obtain⟨A5,c5,e5⟩:=hX.form;rw[bh]at e5;subst e5;have I7:=hl.trans hX.base;refine ae (aa 1 rfl (ab [3,4,11,12,20,79,80,81,82] ?_));refine ao (aD rfl (fun hb=> ?_) (fun hb=> ?_))
  ·
   have SO:j<c.length:=by simpa using hb
   obtain⟨vs,_,rB,mP⟩:=uc.get (show c[j]? = some (fn c j) by rw[List.getElem?_eq_getElem SO,m8 (List.getElem?_eq_getElem SO)]);obtain⟨t,rfl,I8⟩:=dA.rc rB;refine aw (ah [3,4,11,12,20,79,80,81] rfl ?_);refine ao (aE (ae (bY (vs:=[.bool t.f,.slice t.A1 t.m1 t.c1,.slice t.A2 t.m2 t.c2]) ag rfl rfl rfl rfl (nP.le (cM.trans (I7.trans (bF _ _)))) rfl (by decide) (by rw[Int.toNat_natCast];exact mP) (by omega) (by omega) fun _=> ?_)));refine bm cj rfl ?_;obtain⟨ti,aj,ak⟩:=aX;refine aI (.inl ⟨rfl,rfl⟩) rfl rfl rfl aj ak rfl rfl rfl (ab [3,4,11,12,20,22,79,80,81] ?_);refine ae (aa 1 rfl (aB rfl rfl (hX.call (ZR (N:=N) (I8.le (cM.trans I7)) hN)) ?_));rintro _ H6 lO;have wj:=hX.km zN lO fun _ _ h=>h.1;obtain⟨⟨_,n6,d6,b6,rfl,ni⟩,_⟩:=lO;refine aa 3 rfl (bm fQ rfl ?_);obtain⟨ti,aj,ak⟩:=eF;refine aI (.inl ⟨rfl,rfl⟩) rfl rfl rfl aj ak rfl rfl rfl (aa 1 rfl (ab [3,4,11,12,20,23,24,79,80,81] ?_));refine ao (ae (aa 2 rfl (ab [3,4,11,12,20,23,79,80,81,91] ?_)));refine aD rfl (fun hb=> ?_) (fun hb=> ?_)
   ·
    skip
    refine ae (aa 3 rfl (ab [8,9,10] ?_));refine az ⟨.inr rfl,_,.tmp rfl (.tmp rfl (.tmp rfl (.nil))),?_⟩;exact⟨0,.slice none 0 0,false,rfl,cM.trans (hl.trans (wj.base.trans (bF _ _))),fun h9=>by cases h9⟩
   have kS:=ni (by simpa using hb);refine aw (ah [3,4,11,12,20,23,79,80,81] rfl ?_);refine aA rfl (aa 2 rfl (cS Tryz.underlying136 fQ rfl rfl rfl rfl rfl rfl rfl ?_));intro gb a6;have zR:=wj.ins zN (whole (ee [.agg #[.int .i64 n6,.int .i64 d6]]) 138) a6;refine eD Tryz.underlying136 fQ rfl rfl zR.own (eN _ _ _ _ _ _) rfl aa7 (by rw[bh];omega) (by rw[bh];omega) ?_;intro W9 H7 uW;have SL:=zR.append zN (j:=[fn c j]) (by simp) uW (jq (show rj _ [_,_] _ from kS) rfl);refine aa 1 rfl (au (ah [3,4,11,12,20,79,80,81] rfl ?_));refine aA rfl (aF rfl rfl ⟨by omega,by omega⟩ (aa 1 rfl (au ?_)));exact⟨j+1,_,_,by omega,ar,by rw[xA];exact SL,by omega⟩
  have SO:c.length≤j:=by simpa using hb
  obtain rfl:j=c.length:=by omega
  have Ct:=hX.sl zN;rw[akE]at Ct;have eI:QV false H5 g G p.lp.m (p.w+1) p.lp.m (dM p) p.unit:=⟨hq.de.kept ⟨hX.out,hX.same⟩,hq.gt,(hX.same g hq.mem).trans hq.st⟩;have dR:=hl.trans hX.out;clear hX;refine aU (ah [3,4,11,12,20] rfl ?_);refine ae (aa 1 rfl (gO Tryz.underlying136 fQ rfl rfl rfl (by omega) (by omega) (by omega) (by omega) ?_));intro z I6;rw[Int.toNat_natCast]
  have nS:z≠g:=fun e9=>by rw[e9,eI.st]at I6;cases I6
  obtain⟨zS,Cy,dy,fJ⟩:∃zS Cy,G.bv = .slice zS p.lp.m Cy∧∀t H',cD wa H' (G.on t) p.lp.m (p.w+1) p.lp.m (dM p) p.unit→∀i,i<p.lp.m→Rd H' zS (eP p.unit p.lp.m):=by
   rcases eI.de.basis with ⟨h1,h2,h3⟩ | ⟨gb,cb,sz,h1,h2,h3⟩
   ·exact⟨none,0,by rw[h3,h1],fun _ _ _ i hi=>by omega⟩
   ·
    refine⟨_,cb,h2,fun t H' h' i hi=> ?_⟩
    rcases h'.basis with ⟨k1,k2,k3⟩ | ⟨Cn,EL,qm,k1,k2,k3⟩
    ·omega
    ·
     have k1:G.bb = [Cn]:=k1;rw[h1]at k1;cases k1;exact dQ k3
  obtain⟨DP,Sn⟩:=eI.de.apart (e:=⟨cR [.int .i64 0,.int .i64 0] ((p.w+1)*2),(p.w+1)*2,138,true⟩) I6;have SP:QY false (rem H5 G.gs) (ins H5 z ⟨cR [.int .i64 0,.int .i64 0] ((p.w+1)*2),(p.w+1)*2,138,true⟩) g G p.lp.m (p.w+1) p.lp.m (dM p) p.unit z (fun _=>0) 0:=⟨⟨DP,List.mem_cons_of_mem _ eI.gt,by rw[bn _ _ (Ne.symm nS)];exact eI.st⟩,⟨_,bC _ _ _,Sh⟩,nS,by rw[Sn];exact .refl _⟩
  generalize ins H5 z ⟨cR [.int .i64 0,.int .i64 0] ((p.w+1)*2),(p.w+1)*2,138,true⟩=H6 at *
  refine aa 1 rfl (ab [3,4,11,12,20,25] ?_);refine ao (ae (aa 3 rfl (ab [3,4,11,12,20,25,100,101] ?_)));refine aE (fD (fun(k:Nat)(f:Nat→Rat)(o1:Bool)=>p.w+1-k) (fun(k:Nat)(f:Nat→Rat)(o1:Bool)=>put (put (put (put (put (put (put (put (emp) 3 (.val (.int .i64 (p.u:Int)))) 4 (.val (.pointer (some ⟨g4,0,none⟩)))) 11 (.val (.pointer (some ⟨g,0,none⟩)))) 12 (.val (.int .i64 ((p.w+1:Nat):Int)))) 20 (.val (.slice A5 c.length c5))) 25 (.val (.slice (some ⟨z,0,none⟩) (p.w+1) (p.w+1)))) 100 (.val (.int .i64 ((p.w+1:Nat):Int)))) 101 (.val (.int .i64 (k:Int)))) (fun(k:Nat)(f:Nat→Rat)(o1:Bool) H'=>QY o1 (rem H5 G.gs) H' g G p.lp.m (p.w+1) p.lp.m (dM p) p.unit z f k∧(o1=false→∀j,j<k→f j=ru p (dM p) j)∧k≤p.w+1) 0 (fun _=>0) false (⟨SP,fun _ j hj=>absurd hj (Nat.not_lt_zero _),Nat.zero_le _⟩) ar ?_);rintro k f o1 H7 ⟨hY,hf,hk⟩;obtain⟨zs,qo,sZ⟩:=hY.row;have FH:=MO sZ hk;refine ae (aa 1 rfl (ab [3,4,11,12,20,25,100,101,102] ?_));refine ao (aD rfl (fun hb=> ?_) (fun hb=> ?_))
  ·
   have fk:k<p.w+1:=by simp at hb;omega
   have vA:=hY.put (o':=o1) ((Kept.refl _ _).iI _) hY.q.st (Sf (f:=bT f k 0) (akC sZ fun j hj=>pc (by omega)) fk (by rw[re];exact EF));refine aw (ah [3,4,11,12,20,25,100,101] rfl ?_);refine ao (aE (ae (aa 2 rfl (ab [3,4,11,12,20,25,26,100,101] ?_))));refine ae (aa 2 rfl (di ag rfl fQ rfl rfl ?_));obtain⟨ti,aj,ak⟩:=eF;refine cT (.inl rfl) ag rfl rfl rfl (by omega) (by omega) (qo) rfl (by show 0+(p.w+1)*2≤zs.length;omega) aj ak (fun _=>rfl) rfl rfl rfl fun _=> ?_;refine ab [3,4,11,12,20,25,26,100,101] ?_;rw[EP,Int.toNat_natCast];refine ae (aa 2 rfl (aV ag rfl rfl rfl (aR ag rfl rfl rfl (show cell _ _=some (.slice zS p.lp.m Cy)from by rw[←dy];exact vA.q.mM) ?_)));refine aa 2 rfl (ab [3,4,11,12,20,25,26,100,101,112,113] ?_);refine aE (fD (fun(i:Nat)(f2:Nat→Rat)(o2:Bool)=>p.lp.m-i) (fun(i:Nat)(f2:Nat→Rat)(o2:Bool)=>put (put (put (put (put (put (put (put (put (put (put (emp) 3 (.val (.int .i64 (p.u:Int)))) 4 (.val (.pointer (some ⟨g4,0,none⟩)))) 11 (.val (.pointer (some ⟨g,0,none⟩)))) 12 (.val (.int .i64 ((p.w+1:Nat):Int)))) 20 (.val (.slice A5 c.length c5))) 25 (.val (.slice (some ⟨z,0,none⟩) (p.w+1) (p.w+1)))) 26 (.val (.int .i64 (k:Int)))) 100 (.val (.int .i64 ((p.w+1:Nat):Int)))) 101 (.val (.int .i64 (k:Int)))) 112 (.val (.int .i64 (p.lp.m:Int)))) 113 (.val (.int .i64 (i:Int)))) (fun(i:Nat)(f2:Nat→Rat)(o2:Bool) H'=>QY o2 (rem H5 G.gs) H' g G p.lp.m (p.w+1) p.lp.m (dM p) p.unit z f2 (k+1)∧(o2=false→(∀j,j<k→f2 j=ru p (dM p) j)∧f2 k=rA p (dM p) k i)∧i≤p.lp.m) 0 (bT f k 0) o1 (⟨vA,fun h9=>⟨fun j hj=>by rw[pc (by omega)];exact hf h9 j hj,by rw[re,aa2]⟩,Nat.zero_le _⟩) ar ?_)
   rintro i f2 o2 H8 ⟨hV,hF,hi⟩;obtain⟨ws,tf,nI⟩:=hV.row;have pJ:=MO nI (show k+1≤p.w+1 by omega);refine ae (aa 1 rfl (ab [3,4,11,12,20,25,26,100,101,112,113,114] ?_));refine ao (aD rfl (fun hb=> ?_) (fun hb=> ?_))
   ·
    have aO:i<p.lp.m:=by simpa using hb
    have ye:=fJ _ _ hV.q.de i aO;refine aw (ah [3,4,11,12,20,25,26,100,101,112,113] rfl ?_);refine ao (aE (ae (aa 2 rfl (ab [3,4,11,12,20,25,26,27,100,101,112,113] ?_))));refine kT (fun(b0:Bool)=>put (put (put (put (put (put (put (put (put (put (put (put (put (emp) 3 (.val (.int .i64 (p.u:Int)))) 4 (.val (.pointer (some ⟨g4,0,none⟩)))) 11 (.val (.pointer (some ⟨g,0,none⟩)))) 12 (.val (.int .i64 ((p.w+1:Nat):Int)))) 20 (.val (.slice A5 c.length c5))) 25 (.val (.slice (some ⟨z,0,none⟩) (p.w+1) (p.w+1)))) 26 (.val (.int .i64 (k:Int)))) 27 (.val (.int .i64 (i:Int)))) 100 (.val (.int .i64 ((p.w+1:Nat):Int)))) 101 (.val (.int .i64 (k:Int)))) 112 (.val (.int .i64 (p.lp.m:Int)))) 113 (.val (.int .i64 (i:Int)))) 135 (.val (.bool b0))) (fun(b0:Bool) H'=>H'=H8∧(b0=true↔p.u≤p.unit i∧(k<p.u∨k=p.w))) ?_ ?_
    ·
     by_cases h1:p.u≤p.unit i
     ·
      skip
      by_cases h2:k<p.u
      ·
       skip
       refine aA rfl (aa 2 rfl (aV ag rfl rfl rfl (aR ag rfl rfl rfl (show cell _ _=some (.slice zS p.lp.m Cy)from by rw[←dy];exact hV.q.mM) ?_)));refine aa 1 rfl (aS ag rfl rfl rfl rfl rfl (ye) (by rw[Int.toNat_natCast];exact gQ aO) (by omega) (by omega) fun _=> ?_);refine aa 1 rfl (aG true rfl rfl (lT (by omega)) (aa 3 rfl (aG true rfl rfl (je (by omega)) (aa 7 rfl (au ?_)))));exact⟨_,ar,rfl,by simp[h1,h2]⟩
      skip
      by_cases h3:k=p.w
      ·
       skip
       refine aA rfl (aa 2 rfl (aV ag rfl rfl rfl (aR ag rfl rfl rfl (show cell _ _=some (.slice zS p.lp.m Cy)from by rw[←dy];exact hV.q.mM) ?_)));refine aa 1 rfl (aS ag rfl rfl rfl rfl rfl (ye) (by rw[Int.toNat_natCast];exact gQ aO) (by omega) (by omega) fun _=> ?_);refine aa 1 rfl (aG true rfl rfl (lT (by omega)) (aa 3 rfl (aG false rfl rfl (iq (by omega)) (aa 3 rfl (cQ rfl rfl ⟨by omega,by omega⟩ (aG true rfl rfl (gi (by omega)) (aa 2 rfl (au ?_))))))));exact⟨_,ar,rfl,by simp[h1,h3]⟩
      skip
      refine aA rfl (aa 2 rfl (aV ag rfl rfl rfl (aR ag rfl rfl rfl (show cell _ _=some (.slice zS p.lp.m Cy)from by rw[←dy];exact hV.q.mM) ?_)));refine aa 1 rfl (aS ag rfl rfl rfl rfl rfl (ye) (by rw[Int.toNat_natCast];exact gQ aO) (by omega) (by omega) fun _=> ?_);refine aa 1 rfl (aG true rfl rfl (lT (by omega)) (aa 3 rfl (aG false rfl rfl (iq (by omega)) (aa 3 rfl (cQ rfl rfl ⟨by omega,by omega⟩ (aG false rfl rfl (jn (by omega)) (aa 2 rfl (au ?_))))))));exact⟨_,ar,rfl,by simp[h1,h2,h3]⟩
     skip
     refine aA rfl (aa 2 rfl (aV ag rfl rfl rfl (aR ag rfl rfl rfl (show cell _ _=some (.slice zS p.lp.m Cy)from by rw[←dy];exact hV.q.mM) ?_)));refine aa 1 rfl (aS ag rfl rfl rfl rfl rfl (ye) (by rw[Int.toNat_natCast];exact gQ aO) (by omega) (by omega) fun _=> ?_);refine aa 1 rfl (aG false rfl rfl (pE (by omega)) (aa 11 rfl (au ?_)));exact⟨_,ar,rfl,by simp[h1]⟩
    rintro b0 H9 ⟨e9,gM⟩;rw[e9];clear e9 H9;refine aD rfl (fun hb=> ?_) (fun hb=> ?_)
    ·
     have SQ:=gM.1 (by simpa using hb);obtain⟨pi,cX⟩:=eI.de.get aO;obtain⟨xs8,q3,anY,rC⟩:=hV.q.rk;obtain⟨xi8,si8,SR,SS⟩:=hV.q.row (G:=G.on _) cX;obtain⟨n5,d5,CW,l4⟩:=akA nI (Nat.lt_succ_self k) (show k+1≤p.w+1 by omega);obtain⟨n6,d6,kS,pT,_⟩:=mN SS fk;have bo:=IE g H8;refine eK (.cO (lk g H8)) [0,1,2,3,4,5,6,7,8,9,10,11,12,13,14,15,16,17,18,19] follows (gV [0,0,0,0,0,24,56,0,128,384,896,0,3968,8064,0,32640,65408,131068,262143,524287] (by kernel_rfl)) ?_;refine eR bo rfl (eR bo rfl (eR bo rfl (eR bo rfl (eR bo rfl (Ck bo ag rfl rfl rfl rfl (zF tf nS) rfl (by decide) (by rw[Int.toNat_natCast];exact l4) (by omega) (by omega) fun _=> ?_)))));refine eR bo rfl (l6 bo rfl (l7 bo ag rfl rfl rfl (jS bo ag rfl rfl rfl (hV.q.k0) (eR bo rfl (Cj bo ag rfl rfl rfl rfl rfl (q3) (by rw[Int.toNat_natCast];exact rC i pi cX) (by omega) (by omega) fun _=> ?_)))));refine eR bo rfl (Ck bo ag rfl rfl rfl rfl (zF SR (hV.q.xQ (G:=G.on _) cX)) rfl (by decide) (by rw[Int.toNat_natCast];exact pT) (by omega) (by omega) fun _=> ?_);refine Cl rfl rfl (RA hV.q.mem hV.q.st CW kS) (fun v H9 rf=>by obtain⟨k1,_,_,_,_,_,k2,_⟩:=rf;exact hV.q.fO k1 k2) ?_
     rintro v9 H9 ⟨yf,vs9,o9,q9,rfl,aa9,EW,fu⟩;obtain⟨n9,d9,rfl,_⟩:=id aa9;have bo:=hV.q.fO yf EW;have akN:=(yf.same z QZ.mO nS).trans tf;have SU:=hV.put yf EW (akB nI fk aa9);obtain⟨ti,aj,ak⟩:=eF;refine Mp bo ag rfl rfl rfl (by omega) (by omega) (akN) rfl (by show (p.w+1)*2≤ws.length;omega) aj ak (fun _=>rfl) rfl rfl rfl fun _=> ?_;refine au (ah [3,4,11,12,20,25,26,100,101,112,113] rfl ?_);refine aA rfl (aF rfl rfl ⟨by omega,by omega⟩ (aa 1 rfl (au ?_)));exact⟨i+1,bT f2 k q9,o9,by omega,ar,SU,fun h9=>⟨fun j hj=>by rw[pc (by omega)];exact(hF (fu h9).1).1 j hj,by rw[re,(fu h9).2,(hF (fu h9).1).2,aa3 SQ]⟩,by omega⟩
    have I9:¬(p.u≤p.unit i∧(k<p.u∨k=p.w)):=fun h9=>by have:=gM.2 h9;simp[this]at hb
    refine aw (ah [3,4,11,12,20,25,26,100,101,112,113] rfl ?_);refine aA rfl (aF rfl rfl ⟨by omega,by omega⟩ (aa 1 rfl (au ?_)));exact⟨i+1,f2,o2,by omega,ar,hV,fun h9=>⟨(hF h9).1,by rw[(hF h9).2,aa4 I9]⟩,by omega⟩
   have aO:p.lp.m≤i:=by simpa using hb
   obtain rfl:i=p.lp.m:=by omega
   rw[aa5]at hF;refine aU (ah [3,4,11,12,20,25,100,101] rfl ?_);refine aA rfl (aF rfl rfl ⟨by omega,by omega⟩ (aa 1 rfl (au ?_)))
   exact⟨k+1,f2,o2,by omega,ar,hV,fun h9 j hj=>by
    by_cases ej:j=k
    ·subst ej;exact(hF h9).2
    ·exact(hF h9).1 j (by omega),by omega⟩
  have fk:p.w+1≤k:=by simp at hb;omega
  obtain rfl:k=p.w+1:=by omega
  have hzE:=Sg sZ;have SM:pa wa (rem H7 (G.on (z::G.top)).gs) H7 z (aK f (p.w+1)):=⟨_,_,qo,hzE⟩;refine aU (ah [3,4,11,12,20,25] rfl ?_);refine ae (aa 3 rfl (aV ag rfl rfl rfl (aR ag rfl rfl rfl (hY.q.iS) (aa 1 rfl (cS Tryz.underlying133 C5 rfl rfl rfl rfl rfl rfl rfl ?_)))));intro gb a6;obtain⟨vB,tj⟩:=hY.q.fresh (e:=whole [.slice (some ⟨z,0,none⟩) (p.w+1) (p.w+1)] 136) a6;have SN:pa wa (rem (ins H7 gb (whole [.slice (some ⟨z,0,none⟩) (p.w+1) (p.w+1)] 136)) (G.on (z::G.top)).gs) (ins H7 gb (whole [.slice (some ⟨z,0,none⟩) (p.w+1) (p.w+1)] 136)) z (aK f (p.w+1)):=SM.le tj (bn _ _ fun(e9:z=gb)=>by rw[←e9,qo]at a6;cases a6);refine eD Tryz.underlying133 C5 rfl rfl vB.de.rows (eN _ _ _ _ _ _) rfl (BP _ _ _) (by omega) (by omega) ?_;intro v8 H8 nV;obtain⟨A8,c8,rfl⟩:=nV.own.form;rw[show iV (G.on (z::G.top)).rg (p.w+1)++ee [Value.slice (some ⟨z,0,none⟩) (p.w+1) (p.w+1)]=iV (G.rg ++ [(z,p.w+1)]) (p.w+1)from aa6]at nV;obtain⟨fu,ea,EW⟩:=vB.more (G:=G) hq.gt nS SN nV;have ea:=hY.le.trans (tj.trans ea);obtain⟨M9,uX⟩:∃M9,M9=(fun i=>if i=p.lp.m then f else dM p i):=⟨_,rfl⟩;rw[←uX]at fu;obtain⟨G9,nW⟩:∃G9,G9=G.more G.top z (p.w+1) A8 c8 p.lp.m:=⟨_,rfl⟩
  rw[←nW]at fu ea
  have gG:ME o1 o1 (mb p) M9 p.unit p.lp.m (p.w+1) (if o1 then none else some (yb M9 p.unit p.lp.m p.w)):=by
   cases o1 with
   | true=>rfl
   | false=>
    refine⟨rfl,rfl,aaK bO (fun i hi j hj=>by rw[uX];show (if i=p.lp.m then f else dM p i) j=_;rw[if_neg (by omega)]) (fun j hj=> ?_),MP⟩
    have e7:ru p M9 j=ru p (dM p) j:=by
     unfold ru
     split
     ·
      congr 1
      refine eG fun i hi=> ?_;rw[uX]
      show (if _ then(if i=p.lp.m then f else dM p i) j else 0)=_
      rw[if_neg (show ¬i=p.lp.m by omega)]
     ·rfl
    rw[e7,←hf rfl j (by omega),uX]
    show (if p.lp.m=p.lp.m then f else _) j=_
    rw[if_pos rfl]
  have akO:∀T,(if o1 then none else some (yb M9 p.unit p.lp.m p.w))=some T→Acc (av.Step p.u) T:=fun T hT=>by
   cases o1 with
   | true=>cases hT
   | false=>cases hT;exact gG.2.2.1.acc
  have SV:∀i,i<p.lp.m→p.unit i<p.w+1:=fun i hi=>Nat.lt_succ_of_lt (nU p hi);refine aa 1 rfl (aV ag rfl rfl rfl ?_);obtain⟨ti,aj,ak⟩:=J7;refine j9 (g:=g) (o:=0) (.inl rfl) rfl EW rfl (by show 0+1≤3;omega) aj ak rfl rfl rfl rfl ?_;refine ab [3,4,11,12,20] ?_;refine ae (aa 2 rfl (aB rfl rfl (aaA fu (by omega) (by omega) (by omega) (fun T r s=>mb.step) gG akO SV) ?_));rintro _ nh ⟨EX,MW,o10,SW,rfl,oe,mJ,akP,SX⟩;have zT:=ea.trans mJ;refine ab [3,4,11,12,20] ?_;refine ao (ae (aa 2 rfl (aV ag rfl rfl rfl (aR ag rfl rfl rfl (oe.RQ) (ab [3,4,11,12,20,173] ?_)))));refine aD rfl (fun hb=> ?_) (fun hb=> ?_)
  ·
   skip
   refine ae (aa 3 rfl (ab [8,9,10] ?_));refine az ⟨.inr rfl,_,.tmp rfl (.tmp rfl (.tmp rfl (.nil))),?_⟩;exact⟨0,.slice none 0 0,false,rfl,cM.trans (dR.trans (zT.trans (bF _ _))),fun h9=>by cases h9⟩
  have hb:o10=false:=by simpa using hb
  subst hb;obtain⟨_,T,hT,iW,sw,SY⟩:=akP rfl
  have Ja:∀j,j<p.u→0≤T.c j:=fun j hj=>by
   cases SW with
   | true=>rw[←iW.ec j (by omega)];exact sw rfl j hj
   | false=>
    obtain⟨s,k1,k2,k3⟩:=SY rfl;exact(hT.aaI k1 (by rw[←iW.ec s (by omega)];exact k2) fun i hi=>by rw[iW.em]at hi;rw[←iW.eA i hi s (by omega)];exact k3 i hi).elim
  obtain⟨pm,td⟩:=oe.de.get (Nat.lt_succ_self p.lp.m);obtain⟨xm,sm,Cp,Cq⟩:=oe.row td;obtain⟨anZ,HL,aba,zU⟩:=oe.rk;obtain⟨nm,dm,hfm,tF,i1,i2,i3,i4,CZ⟩:=mN Cq (show p.w<p.w+1 by omega);refine aw (ah [3,4,11,12,20] rfl ?_);refine ao (bN .bK [0,1,2,3,4,5,6,7,8,9,10,11,12,13,14,15,16,17] follows (gV [0,1,3,7,0,16,48,112,240,496,1023,2047,0,4096,16383,32767,65535,131071] (by kernel_rfl)) ?_);refine aa 2 rfl (aV ag rfl rfl rfl (aR ag rfl rfl rfl (oe.iS) (aa 2 rfl (aV ag rfl rfl rfl (aR ag rfl rfl rfl (oe.iS) (aa 1 rfl (cQ rfl rfl ⟨by omega,by omega⟩ (aS ag rfl rfl rfl rfl rfl (aba) (by rw[show (((p.lp.m+1:Nat):Int)-1).toNat=p.lp.m by omega];exact zU _ pm td) (by omega) (by omega) fun _=> ?_))))))));refine aa 1 rfl (cQ rfl rfl ⟨by omega,by omega⟩ (jW ag rfl rfl rfl rfl rfl rfl rfl (dQ Cp) (by rw[show (((p.w+1:Nat):Int)-1).toNat=p.w by omega];exact tF 0 _ rfl) (by omega) (by omega) fun _ _=> ?_));refine aa 1 rfl (ab [3,4,11,12,20,191] ?_);refine aD rfl (fun hb=> ?_) (fun hb=> ?_)
  ·
   have hb:nm≠0:=by simpa using hb
   have S0:p.lp.yZ:=hT.inf bO Ja (by rw[←iW.ec _ (Nat.lt_succ_self _),CZ];exact fun h9=>hb ((uS i3).1 h9));refine ae (aa 3 rfl (ab [8,9,10] ?_));refine az ⟨.inr rfl,_,.tmp rfl (.tmp rfl (.tmp rfl (.nil))),?_⟩;exact⟨2,.slice none 0 0,true,rfl,cM.trans (dR.trans (zT.trans (bF _ _))),fun _=> .inr ⟨by decide,.inr (.inl ⟨rfl,S0,rfl⟩)⟩⟩
  have hb:nm=0:=by simpa using hb
  have S1:iX p 0 T:=hT.clean Ja (by rw[←iW.ec _ (Nat.lt_succ_self _),CZ];exact(uS i3).2 hb);obtain⟨ju,Ir,xU,vX,an0⟩:=oe.less;refine aw (ah [3,4,11,12,20] rfl ?_);refine bN .gD [0,1,2,3,4,5,6,7,8,9,10,11,12,13,14] follows (by kernel_rfl) ?_;refine aa 3 rfl (aV ag rfl rfl rfl (aR ag rfl rfl rfl (oe.iS) (aa 2 rfl (aV ag rfl rfl rfl (aR ag rfl rfl rfl (oe.iS) (aa 1 rfl (cQ rfl rfl ⟨by omega,by omega⟩ ?_)))))));rw[show ((p.lp.m+1:Nat):Int)-1=((p.lp.m:Nat):Int) by omega];refine rR ag rfl rfl (.inl ⟨rfl,rfl⟩) (.inr ⟨_,_,rfl,rfl⟩) (by omega) (by omega) ?_;rw[yH,Nat.sub_zero,Nat.sub_zero];refine aa 1 rfl (aV ag rfl rfl rfl ?_);obtain⟨ti,aj,ak⟩:=J7;refine j9 (g:=g) (o:=0) (.inr rfl) rfl oe.st rfl (by show 0+1≤3;omega) aj ak rfl rfl rfl rfl ?_;refine ab [3,4,11,12,20] ?_;refine RM Ir ?_;have abb:=zT.trans vX;clear Ir Cq hfm tF Cp aba zU HL;obtain⟨iy,akQ⟩:∃iy,iy=G9.less p.lp.m:=⟨_,rfl⟩;rw[←akQ]at xU abb;refine ao ?_;obtain⟨MX,MY,sJ,BB⟩:=xU.th;refine ae (aa 2 rfl (aV ag rfl rfl rfl (aR ag rfl rfl rfl (show cell _ _=some (.slice MX p.lp.m MY)from by rw[←sJ];exact xU.mM) ?_)))
  refine aa 2 rfl (ab [3,4,11,12,20,210,211] ?_);refine aE (rS (fun(i:Nat)(M1:Nat→Nat→Rat)(B1:Nat→Nat)(o1:Bool)=>p.lp.m-i) (fun(i:Nat)(M1:Nat→Nat→Rat)(B1:Nat→Nat)(o1:Bool)=>put (put (put (put (put (put (put (emp) 3 (.val (.int .i64 (p.u:Int)))) 4 (.val (.pointer (some ⟨g4,0,none⟩)))) 11 (.val (.pointer (some ⟨g,0,none⟩)))) 12 (.val (.int .i64 ((p.w+1:Nat):Int)))) 20 (.val (.slice A5 c.length c5))) 210 (.val (.int .i64 (p.lp.m:Int)))) 211 (.val (.int .i64 (i:Int)))) (fun(i:Nat)(M1:Nat→Nat→Rat)(B1:Nat→Nat)(o1:Bool) H'=>QV o1 H' g iy p.lp.m (p.w+1) p.lp.m M1 B1∧Heap.le (rem H5 G.gs) (rem H' iy.gs)∧(∀q,q<p.lp.m→B1 q<p.w+1)∧(o1=false→∃T,iX p i T∧ie M1 B1 T p.lp.m (p.w+1))∧i≤p.lp.m) 0 EX MW false (⟨xU,abb,SX,fun _=>⟨T,S1,iW⟩,Nat.zero_le _⟩) ar ?_);rintro i M1 B1 o1 dG ⟨vN,lh,S2,abc,hi⟩;refine ae (aa 1 rfl (ab [3,4,11,12,20,210,211,212] ?_));refine ao (aD rfl (fun hb=> ?_) (fun hb=> ?_))
  ·
   have aO:i<p.lp.m:=by simpa using hb
   obtain⟨pi,cX⟩:=vN.de.get aO
   have S3:o1=false→(∃T,iX p i T∧ie M1 B1 T p.lp.m (p.w+1)∧p.u≤B1 i∧∀j,j<0→M1 i j=0)∨(B1 i<p.u∧∃T,iX p (i+1) T∧ie M1 B1 T p.lp.m (p.w+1)):=fun h9=>by
    obtain⟨T,k1,k2⟩:=abc h9
    by_cases hu:B1 i<p.u
    ·exact .inr ⟨hu,T,k1.skip (by rw[k2.em];exact aO) (.inl (by rw[←k2.eB i aO];exact hu)),k2⟩
    ·exact .inl ⟨T,k1,k2,by omega,fun j hj=>absurd hj (Nat.not_lt_zero _)⟩
   refine aw (ah [3,4,11,12,20,210,211] rfl ?_);refine ao (aE (ae (aa 2 rfl (ab [3,4,11,12,20,28,210,211] ?_))));refine ae (aa 1 rfl (ab [3,4,11,12,20,28,29,210,211] ?_));refine aE (rS (fun(k:Nat)(M2:Nat→Nat→Rat)(B2:Nat→Nat)(o2:Bool)=>p.u-k) (fun(k:Nat)(M2:Nat→Nat→Rat)(B2:Nat→Nat)(o2:Bool)=>put (put (put (put (put (put (put (put (put (emp) 3 (.val (.int .i64 (p.u:Int)))) 4 (.val (.pointer (some ⟨g4,0,none⟩)))) 11 (.val (.pointer (some ⟨g,0,none⟩)))) 12 (.val (.int .i64 ((p.w+1:Nat):Int)))) 20 (.val (.slice A5 c.length c5))) 28 (.val (.int .i64 (i:Int)))) 29 (.val (.int .i64 (k:Int)))) 210 (.val (.int .i64 (p.lp.m:Int)))) 211 (.val (.int .i64 (i:Int)))) (fun(k:Nat)(M2:Nat→Nat→Rat)(B2:Nat→Nat)(o2:Bool) H'=>QV o2 H' g iy p.lp.m (p.w+1) p.lp.m M2 B2∧Heap.le (rem H5 G.gs) (rem H' iy.gs)∧(∀q,q<p.lp.m→B2 q<p.w+1)∧(o2=false→(∃T,iX p i T∧ie M2 B2 T p.lp.m (p.w+1)∧p.u≤B2 i∧∀j,j<k→M2 i j=0)∨(B2 i<p.u∧∃T,iX p (i+1) T∧ie M2 B2 T p.lp.m (p.w+1)))∧k≤p.u) 0 M1 B1 o1 (⟨vN,lh,S2,S3,Nat.zero_le _⟩) ar ?_);rintro k M2 B2 o2 lH ⟨sR,mH,zV,Cz,K8⟩;have abd:=BB sR i aO;refine ao ?_
   by_cases Cr:k<p.u
   ·
    skip
    by_cases h2u:p.u≤B2 i
    ·
     obtain⟨ajN,xG,aar,IL⟩:=sR.rk;obtain⟨Mw,aas,zH,uU⟩:=sR.row cX;obtain⟨nk,dk,MZ,hck,j1,j2,j3,j4,fT⟩:=mN uU (show k<p.w+1 by omega);refine ae (aa 2 rfl (aG true rfl rfl (je (by omega)) (aa 3 rfl (aV ag rfl rfl rfl (aR ag rfl rfl rfl (show cell _ _=some (.slice MX p.lp.m MY)from by rw[←sJ];exact sR.mM) ?_)))));refine aa 1 rfl (aS ag rfl rfl rfl rfl rfl (abd) (by rw[Int.toNat_natCast];exact gQ aO) (by omega) (by omega) fun _=> ?_);refine aa 1 rfl (aG true rfl rfl (lT (by omega)) (aa 1 rfl (ab [3,4,11,12,20,28,29,210,211,227] ?_)));refine cI rfl (aw (ah [3,4,11,12,20,28,29,210,211] rfl ?_));refine ao (aE (ae (aa 2 rfl (aV ag rfl rfl rfl (aR ag rfl rfl rfl (sR.iS) (aa 1 rfl (aS ag rfl rfl rfl rfl rfl (aar) (by rw[Int.toNat_natCast];exact IL i pi cX) (by omega) (by omega) fun _=> ?_)))))));refine aa 1 rfl (jW ag rfl rfl rfl rfl rfl rfl rfl (dQ zH) (by rw[Int.toNat_natCast];exact hck 0 _ rfl) (by omega) (by omega) fun _ _=> ?_);refine aa 1 rfl (ab [3,4,11,12,20,28,29,210,211,241] ?_)
     refine aD rfl (fun hb=> ?_) (fun hb=> ?_)
     ·
      have hb:nk≠0:=by simpa using hb
      have bA:M2 i k≠0:=by rw[fT];exact fun h9=>hb ((uS j3).1 h9)
      refine aA rfl (aa 3 rfl (aB rfl rfl (aal sR aO aO (show k<p.w+1 by omega) bA (by omega) (by omega)) ?_));rintro v14 qa ⟨M3,o3,Mx,akR,zO⟩;refine au (ah [3,4,11,12,20,28,29,210,211] rfl ?_);refine aA rfl (aa 1 rfl (aF rfl rfl ⟨by omega,by omega⟩ (aa 1 rfl (au ?_))));obtain⟨M5,wk⟩:∃M5:Nat→Nat→Rat,M5=fun q=>if q=p.lp.m then ma M2 i k p.lp.m else M3 q:=⟨_,rfl⟩
      have Jb:∀q,q<p.lp.m→M5 q=M3 q:=fun q hq=>by rw[wk];show (if q=p.lp.m then _ else M3 q)=_;rw[if_neg (by omega)]
      exact⟨k+1,M5,_,o3,by omega,ar,Mx.Cw fun q hq j _=>by rw[Jb q hq],mH.trans zO,fun q hq=>by
       show (if q=i then k else B2 q)<_
       split
       ·omega
       ·exact zV q hq,fun h9=>by
       obtain⟨h8,sG⟩:=akR h9
       rcases Cz h8 with ⟨T,k1,k2,k3,k4⟩ | ⟨k1,_⟩
       ·
        refine .inr ⟨by rw[if_pos rfl];exact Cr,T.pivot i k,k1.pivot (by rw[k2.em];exact aO) (by rw[←k2.eB i aO];exact k3) Cr (by rw[←k2.eA i aO k (by omega)];exact bA),k2.pivot aO (by omega) fun q hq j hj=> ?_⟩
        by_cases e:q=p.lp.m
        ·
         subst e;rw[wk]
         show (if p.lp.m=p.lp.m then _ else M3 _) j=_
         rw[if_pos rfl]
        ·rw[Jb q (by omega)];exact sG q (by omega) j hj
       ·omega,by omega⟩
     have hb:nk=0:=by simpa using hb
     refine aw (ah [3,4,11,12,20,28,29,210,211] rfl ?_);refine aA rfl (aa 1 rfl (aF rfl rfl ⟨by omega,by omega⟩ (aa 1 rfl (au ?_))))
     exact⟨k+1,M2,B2,o2,by omega,ar,sR,mH,zV,fun h9=>by
      rcases Cz h9 with ⟨T,k1,k2,k3,k4⟩ | h8
      ·
       refine .inl ⟨T,k1,k2,k3,fun j hj=> ?_⟩
       by_cases e:j=k
       ·subst e;rw[fT];exact(uS j3).2 hb
       ·exact k4 j (by omega)
      ·exact .inr h8,by omega⟩
    have hD:o2=false→∃T,iX p (i+1) T∧ie M2 B2 T p.lp.m (p.w+1):=fun h9=>by
     rcases Cz h9 with ⟨T,_,_,k3,_⟩ | h8
     ·omega
     ·exact h8.2
    refine ae (aa 2 rfl (aG true rfl rfl (je (by omega)) (aa 3 rfl (aV ag rfl rfl rfl (aR ag rfl rfl rfl (show cell _ _=some (.slice MX p.lp.m MY)from by rw[←sJ];exact sR.mM) ?_)))));refine aa 1 rfl (aS ag rfl rfl rfl rfl rfl (abd) (by rw[Int.toNat_natCast];exact gQ aO) (by omega) (by omega) fun _=> ?_);refine aa 1 rfl (aG false rfl rfl (pE (by omega)) (aa 1 rfl (ab [3,4,11,12,20,28,29,210,211,227] ?_)));refine dd rfl (aU (ah [3,4,11,12,20,210,211] rfl ?_));refine aA rfl (aF rfl rfl ⟨by omega,by omega⟩ (aa 1 rfl (au ?_)));exact⟨i+1,M2,B2,o2,by omega,ar,sR,mH,zV,hD,by omega⟩
   have hD:o2=false→∃T,iX p (i+1) T∧ie M2 B2 T p.lp.m (p.w+1):=fun h9=>by
    rcases Cz h9 with ⟨T,k1,k2,k3,k4⟩ | h8
    ·exact⟨T,k1.skip (by rw[k2.em];exact aO) (.inr fun j hj=>by rw[←k2.eA i aO j (by omega)];exact k4 j (by omega)),k2⟩
    ·exact h8.2
   refine ae (aa 2 rfl (aG false rfl rfl (iq (by omega)) (aa 11 rfl (ab [3,4,11,12,20,28,29,210,211,227] ?_))));refine dd rfl (aU (ah [3,4,11,12,20,210,211] rfl ?_));refine aA rfl (aF rfl rfl ⟨by omega,by omega⟩ (aa 1 rfl (au ?_)));exact⟨i+1,M2,B2,o2,by omega,ar,sR,mH,zV,hD,by omega⟩
  have aO:p.lp.m≤i:=by simpa using hb
  obtain rfl:i=p.lp.m:=by omega
  have fL:nt N (rem dG iy.gs) (.agg #[fv,kK]) p:=hp.le (cM.trans (dR.trans lh));have EY:=Ct.le zN lh;have ou:p.lp.n≤400:=aa8;refine aU (ah [3,4,11,12,20] rfl ?_);have bo:=IE g dG;refine bN (.cO (lk g dG)) [0,1,2,3,4,5,6,7,8,9,10,11,12,13,14] follows (by kernel_rfl) ?_;refine eR bo rfl (eR bo rfl (l6 bo rfl (l7 bo ag rfl rfl rfl (jS bo ag rfl rfl rfl (vN.k0) (eR bo rfl (IF bo ag rfl rfl rfl (((Bw.le (dR.trans lh)).kx vN.mem).at) (eR bo rfl (eR bo rfl (Cl rfl rfl (aj6 vN fL EY fj (by omega) S2 (by omega) (by omega)) (fun v H9 rf=>by obtain⟨_,_,_,_,k1,_⟩:=rf;exact vN.fO k1.iI k1.q.st) ?_)))))))));rintro R3 mL ⟨z5,f5,o5,rfl,qc,EZ⟩;have bo:=vN.fO qc.iI qc.q.st;obtain⟨z5s,abe,akS⟩:=qc.row;have akT:pa wa (rem mL (iy.on (z5::iy.top)).gs) mL z5 (aK f5 (p.w+1)):=⟨_,_,abe,akS⟩;refine D8 Tryz.underlying133 C5 rfl rfl ?_;intro gb a6;obtain⟨vB,tj⟩:=qc.q.fresh (e:=whole [.slice (some ⟨z5,0,none⟩) (p.w+1) (p.w+1)] 136) a6;have akU:pa wa (rem (ins mL gb (whole [.slice (some ⟨z5,0,none⟩) (p.w+1) (p.w+1)] 136)) (iy.on (z5::iy.top)).gs) (ins mL gb (whole [.slice (some ⟨z5,0,none⟩) (p.w+1) (p.w+1)] 136)) z5 (aK f5 (p.w+1)):=akT.le tj (bn _ _ fun(e9:z5=gb)=>by rw[←e9,abe]at a6;cases a6)
  have bo:(Mode.cO (lk g dG)).fO (ins mL gb (whole [.slice (some ⟨z5,0,none⟩) (p.w+1) (p.w+1)] 136)):=fun ad u hu=>cF (Heap.bI _ a6) (bo ad u hu);refine D9 Tryz.underlying133 C5 rfl rfl vB.de.rows (eN _ _ _ _ _ _) rfl (BP _ _ _) (by omega) (by omega) bo ?_;intro v16 E0 E1;have bo:(Mode.cO (lk g dG)).fO E0:=fun ad u hu=>cF E1.le (bo ad u hu);obtain⟨S4,S5,rfl⟩:=E1.own.form;obtain⟨Md,vY,akV⟩:=vB.more (G:=iy) vN.gt qc.ne akU (MU E1);have vY:=(lh.trans qc.le).trans (tj.trans vY);obtain⟨wm,CA⟩:∃wm,wm=(fun i=>if i=p.lp.m then f5 else M1 i):=⟨_,rfl⟩;rw[←CA]at Md
  have EB:ME o5 o5 (oc p c) wm B1 p.lp.m (p.w+1) (if o5 then none else some (yb wm B1 p.lp.m p.w)):=by
   cases o5 with
   | true=>rfl
   | false=>
    obtain⟨k1,k2⟩:=EZ rfl;obtain⟨T5,k3,k4⟩:=abc k1;refine⟨rfl,rfl,aaM k3 k4 (fun i hi j hj=>by rw[CA];show (if i=p.lp.m then f5 else M1 i) j=_;rw[if_neg (by omega)]) (fun j hj=> ?_),MP⟩;rw[←k2 j (by omega),CA]
    show (if p.lp.m=p.lp.m then f5 else _) j=_
    rw[if_pos rfl]
  have akW:∀T,(if o5 then none else some (yb wm B1 p.lp.m p.w))=some T→Acc (av.Step p.u) T:=fun T hT=>by
   cases o5 with
   | true=>cases hT
   | false=>cases hT;exact EB.2.2.1.acc
  refine l6 bo rfl (l7 bo ag rfl rfl rfl ?_);obtain⟨ti,aj,ak⟩:=J7;refine BE (g:=g) (o:=0) rfl akV rfl (by show 0+1≤3;omega) aj ak rfl rfl rfl rfl ?_;refine ab [3,4,11,12] ?_;refine ae (aa 2 rfl (aB rfl rfl (aaA Md (by omega) (by omega) (by omega) (fun T r s=>oc.step) EB akW S2) ?_));rintro _ S6 ⟨S7,S8,o18,Jc,rfl,F4,S9,akX,M0⟩;have yg:=vY.trans S9;refine aa 1 rfl (ab [4,11,12,30] ?_);refine ao (ae (aa 2 rfl (aV ag rfl rfl rfl (aR ag rfl rfl rfl (F4.RQ) (ab [4,11,12,30,267] ?_)))));refine aD rfl (fun hb=> ?_) (fun hb=> ?_)
  ·
   skip
   refine ae (aa 3 rfl (ab [8,9,10] ?_));refine az ⟨.inr rfl,_,.tmp rfl (.tmp rfl (.tmp rfl (.nil))),?_⟩;exact⟨0,.slice none 0 0,false,rfl,cM.trans (dR.trans (yg.trans (bF _ _))),fun h9=>by cases h9⟩
  have hb:o18=false:=by simpa using hb
  subst hb;obtain⟨_,T2,CB,rD,Ta,Tc⟩:=akX rfl;have OC:nt N (rem S6 _) (.agg #[fv,kK]) p:=hp.le (cM.trans (dR.trans yg));refine aw (ah [4,11,12,30] rfl ?_);refine ae (aa 1 rfl (ab [4,8,11,12,30] ?_));refine ao (ae (aa 1 rfl (ab [4,8,11,12,268] ?_)));refine aD rfl (fun hb=> ?_) (fun hb=> ?_)
  ·
   have hb:Jc=true:=by simpa using hb
   have Td:∀j,j<p.u→0≤T2.c j:=fun j hj=>by rw[←rD.ec j (by omega)];exact Ta hb j hj
   refine aA rfl (aa 1 rfl (au (ah [4,8,11,12] rfl ?_)));refine ae (aa 2 rfl (yw ag rfl rfl rfl (((Bw.le (dR.trans yg)).le (bF _ _)).at) (aa 1 rfl (aB rfl rfl (aaG F4 OC (by omega) (by omega) M0 (by omega) (by omega)) ?_))));rintro Tf Rm ⟨Jd,Je,abf⟩;refine aa 3 rfl (ab [8,9,10] ?_);refine az ⟨.inr rfl,_,.tmp rfl (.tmp rfl (.tmp rfl (.nil))),?_⟩;exact⟨1,Tf,true,rfl,cM.trans (dR.trans ((yg.trans (bF _ _)).trans Jd)),fun _=> .inl ⟨rfl,_,Je,bh _ _,CB.opt bO fj Td rD,fun q hq=>by obtain⟨j,hj,rfl⟩:=B0 hq;exact abf j hj⟩⟩
  have hb:Jc=false:=by simpa using hb
  obtain⟨s2,k1,k2,k3⟩:=Tc hb;refine aw (ah [4,8,11,12] rfl ?_);refine ae (aa 2 rfl (yw ag rfl rfl rfl (((Bw.le (dR.trans yg)).le (bF _ _)).at) (aa 1 rfl (aB rfl rfl (aaG F4 OC (by omega) (by omega) M0 (by omega) (by omega)) ?_))));rintro Tf Rm ⟨Jd,Je,abf⟩;refine aa 3 rfl (ab [8,9,10] ?_);refine az ⟨.inr rfl,_,.tmp rfl (.tmp rfl (.tmp rfl (.nil))),?_⟩;exact⟨3,Tf,true,rfl,cM.trans (dR.trans ((yg.trans (bF _ _)).trans Jd)),fun _=> .inr ⟨by decide,CB.unb bO fj k1 (by rw[←rD.ec s2 (by omega)];exact k2) fun i hi=>by rw[rD.em]at hi;rw[←rD.eA i hi s2 (by omega)];exact k3 i hi⟩⟩
end Go.aq
