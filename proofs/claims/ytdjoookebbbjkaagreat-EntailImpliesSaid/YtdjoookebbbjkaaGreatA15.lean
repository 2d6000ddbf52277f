/- Part 15 of the proof: Sv, En1, En2, Rat4, En3, Lex, Lx1, Lx2, Lxz, Lx3, Cmb, En4, Csz. -/
import Derived.Test.YtdjoookebbbjkaaGreatA14
set_option linter.unusedVariables false
namespace Go.aq
open Go.Proofs Num Lp
theorem abw{H:Heap}{p:Prg}{c:List Rat}{pv cv:Value}{N L:Nat}(bO:p.Ok)(fj:c.length=p.free.length)(hp:nt N H pv p)(hc:aN (dA N) 3 H cv c)(hN:N≤400000000)(hf:Fits p c L)(hL:L≤99999998):
 Fn Tryz.prog 25 #[pv,cv] H (alo p c L H):=by
 obtain⟨fv,kK,rfl,nx,ny⟩:=id hp
 have pJ:=HD p
 have SK:=bO.pP
 have MV:=bO.rows
 have akJ:p.lp.m≤800:=MV
 have aa8:p.lp.n≤400:=SK
 have mG:=fy p
 have akK:=mI p
 have hL1:=hf.one;refine aY (args:=[_,_]) Tryz.func25 rfl rfl Tryz.ntmps25 rfl rfl fun w0=> ?_;refine ah [0,1] rfl ?_;refine ae (bZ rfl rfl (aa 1 rfl (bm cj rfl (aa 1 rfl (ab [1,2,5] ?_)))));refine ae (aa 1 rfl (aB rfl rfl (ak8 bO hp hN) ?_));rintro _ H1 ⟨G,rfl,Tj,mX,bg⟩;obtain⟨Ab,cb,dy,alp,fJ⟩:=mX.tab;rw[dy];obtain⟨W,hW⟩:∃W,W=p.w+1:=⟨_,rfl⟩;refine aa 3 rfl (bm J6 rfl ?_);obtain⟨ti,aj,ak⟩:=Od;refine aI (.inl ⟨rfl,rfl⟩) rfl rfl rfl aj ak rfl rfl rfl (aa 1 rfl (ab [1,2,5,7,8] ?_));refine ae (aB rfl rfl (Fn.kq mX.ne (lG (n:=0) (by decide) (by decide))) ?_);rintro v2 H2 Ng;obtain⟨t9,rfl,fu⟩:=Ng.val;rw[show ((0:Int):Rat)=0 from rfl]at fu;have eu:=mX.kept Ng.kept;have cA:=bg.trans Ng.kept.le;have Tq:=cA.trans (bF _ _);refine bm cj rfl ?_;obtain⟨ti,aj,ak⟩:=aX;refine aI (.inl ⟨rfl,rfl⟩) rfl rfl rfl aj ak rfl rfl rfl (ab [1,2,5,7,8,9] ?_);refine ao (ae (aa 4 rfl (aB rfl rfl (akI bO fj (hp.le Tq) (hc.le (pS N) Tq) (by omega) (alp.le Ng.le) (fun i hi j hj=>abu bO hf hi hj) (by omega)) ?_)));rintro _ H3b ⟨st,xv,b,rfl,Ts,hQ⟩
 have Nh:=Tq.trans Ts;refine aa 7 rfl (ab [1,2,5,7,8,9,10,11,12] ?_);refine ae (aa 1 rfl (ab [1,2,5,7,8,9,10,11,36] ?_));refine aD rfl (fun hb=> ?_) (fun hb=> ?_)
 ·
  have hQ:=hQ (by simpa using hb);refine ao (ae (aa 2 rfl (ab [1,5,9,10,11,38] ?_)));refine aD rfl (fun hb=> ?_) (fun hb=> ?_)
  ·
   have dZ:¬st=1:=by simpa using hb
   have hS:od p c st 0:=by
    rcases hQ with ⟨h9,_⟩ | ⟨_,h9⟩
    ·exact absurd h9 dZ
    ·exact h9
   refine bN .bK [0,1,2,3,4,5] follows (by kernel_rfl) ?_;refine vr 4 ?_;obtain⟨ti,aj,ak⟩:=aX;refine aI (.inl ⟨rfl,rfl⟩) rfl rfl rfl aj ak rfl rfl rfl (aa 1 rfl (ab [4,5,6] ?_));obtain⟨Jj,uZ,u0⟩:=aX;refine az ⟨.inr rfl,_,.tmp rfl (.agg rfl Tryz.underlying38 uZ u0 (.tmp rfl (.nil))),?_⟩;exact⟨Nh,st,t9,xv,0,rfl,hS,(fu.le (bF _ _)).le Ts,Ji hf hS,fun h9=>absurd h9 dZ⟩
  ·
   have dZ:st=1:=by simpa using hb
   obtain⟨x,hx,cY,hS,hxz⟩:∃x,aN cg 3 H3b xv x∧x.length=p.free.length∧od p c 1 (cH p.free.length (fn c) (fn x))∧∀q,q∈x→aM q≤17:=by
    rcases hQ with ⟨_,h9⟩ | ⟨h9,_⟩
    ·exact h9
    ·exact absurd dZ h9
   subst dZ;refine aw (ah [1,5,10,11] rfl ?_);refine ae (aa 3 rfl (aB rfl rfl (aaY (N:=400000000) ((hc.le (pS N) Nh).abv hN) (hx.zC fun q hq=>Nat.le_trans (hxz q hq) (by decide)) (by omega) (by omega) (Nat.le_refl _)) ?_));rintro _ H4 ⟨cM,t4,rfl,cn⟩;rw[fj]at cn;refine vr 2 ?_;obtain⟨ti,aj,ak⟩:=aX;refine aI (.inl ⟨rfl,rfl⟩) rfl rfl rfl aj ak rfl rfl rfl (aa 1 rfl (ab [4,5,6] ?_));obtain⟨Jj,uZ,u0⟩:=aX;refine az ⟨.inr rfl,_,.tmp rfl (.agg rfl Tryz.underlying38 uZ u0 (.tmp rfl (.nil))),?_⟩;exact⟨Nh.trans cM,1,t4,xv,_,rfl,hS,cn,Ji hf hS,fun _=>⟨x,hx.le ef cM,cY,fun q hq=>Nat.le_trans (hxz q hq) (by omega),rfl⟩⟩
 ·
  obtain⟨H3,iA,dz⟩:=akj G.gs Ts eu.ne;refine RM iA ?_;clear hQ Nh;have lV:=eu.kept dz;have dK:=cA.trans dz.le;have fu:=fu.le dz.le;rw[←hW]at lV;refine aw (ah [1,2,5,7,8,9] rfl ?_);refine ae (aa 1 rfl (aF rfl rfl ⟨by omega,by omega⟩ (aa 1 rfl (ab [1,2,5,7,8,9,13] ?_))));refine kT (fun(a:Nat)=>put (put (put (put (put (put (put (emp) 1 (.val (cv))) 2 (.box [fv,kK])) 5 (.box [.bool false,.slice none 0 0,.slice none 0 0])) 7 (.box [.slice G.Ar p.lp.m G.cr,.slice Ab p.lp.m cb])) 8 (.val (.int .i64 (p.u:Int)))) 9 (.box [.bool t9.f,.slice t9.A1 t9.m1 t9.c1,.slice t9.A2 t9.m2 t9.c2])) 13 (.val (.int .i64 (a:Int)))) (fun(a:Nat) H'=>H'=H3∧W=a) ?_ ?_
  ·
   refine ae (aa 4 rfl (ab [1,2,5,7,8,9,13,52] ?_));refine aD rfl (fun hb=> ?_) (fun hb=> ?_)
   ·
    have wI:0<p.lp.m:=by simp at hb;omega
    obtain⟨p0,An⟩:=lV.get wI;refine aA rfl (aa 2 rfl (aS ag rfl rfl rfl rfl rfl (lV.hd) (by show (iV G.rg _)[0]? = _;exact kp (rg:=G.rg) An) (by omega) (by omega) fun _=> ?_));refine aa 2 rfl (au ?_);exact⟨W,ar,rfl,rfl⟩
   have wI:p.lp.m=0:=by simp at hb;omega
   have e9:p.w=p.u:=by show a8 _ _ _ p.lp.m=_;rw[wI];rfl
   refine aw ?_;exact⟨W,ar,rfl,rfl⟩
  rintro a H4 ⟨e4,rfl⟩;rw[e4];clear e4 H4;refine ae (aa 1 rfl (gO Tryz.underlying28 cj rfl rfl rfl (by omega) (by omega) (by omega) (by omega) ?_));intro z jh;rw[Int.toNat_natCast];have CC:=lV.gu.start (C:=lP W (fun _=>0) 0) (xs:=cR [.bool false,.slice none 0 0,.slice none 0 0] (W*3)) jh Na;refine aa 1 rfl (ab [1,2,5,7,8,9,13,14] ?_);refine ao (ae (aa 3 rfl (ab [1,2,5,7,8,9,13,14,61,62] ?_)));refine aE (fX (fun(k:Nat)(f:Nat→Rat)=>W-k) (fun(k:Nat)(f:Nat→Rat)=>put (put (put (put (put (put (put (put (put (put (emp) 1 (.val (cv))) 2 (.box [fv,kK])) 5 (.box [.bool false,.slice none 0 0,.slice none 0 0])) 7 (.box [.slice G.Ar p.lp.m G.cr,.slice Ab p.lp.m cb])) 8 (.val (.int .i64 (p.u:Int)))) 9 (.box [.bool t9.f,.slice t9.A1 t9.m1 t9.c1,.slice t9.A2 t9.m2 t9.c2])) 13 (.val (.int .i64 (W:Int)))) 14 (.val (.slice (some ⟨z,0,none⟩) W W))) 61 (.val (.int .i64 (W:Int)))) 62 (.val (.int .i64 (k:Int)))) (fun(k:Nat)(f:Nat→Rat) H'=>SZ (lP W f k) (rem H3 G.gs) H' G p.lp.m W p.lp.m (dM p) p.unit (.slice none 0 0) [] z∧(∀j,j<k→f j=ru p (dM p) j)∧k≤W) 0 (fun _=>0) (⟨CC,fun j hj=>absurd hj (Nat.not_lt_zero _),Nat.zero_le _⟩) ar ?_);rintro k f H5 ⟨hS,MZ,hk⟩;obtain⟨xs,hx,hC⟩:=hS.row;have cY:=Jf hC hk;refine ae (vr 1 ?_)
  refine ab [1,2,5,7,8,9,13,14,61,62,63] ?_;refine ao (aD rfl (fun hb=> ?_) (fun hb=> ?_))
  ·
   have fk:k<W:=by simpa using hb
   have vA:=hS.set (.refl _ _) (M7 (f:=bT f k 0) (alm hC (fun j hj=>pc (by omega)) hk) fk (by rw[re];exact(show cg _ [_,_,_] _ from fu.le hS.le)));refine aw (ah [1,2,5,7,8,9,13,14,61,62] rfl ?_);refine ao (aE (ae (aa 2 rfl (ab [1,2,5,7,8,9,13,14,15,61,62] ?_))));refine ae (vr 3 ?_);obtain⟨ti,aj,ak⟩:=aX;refine cT (.inl rfl) ag rfl rfl rfl (by omega) (by omega) (hx) rfl (by show 0+W*3≤xs.length;omega) aj ak (fun _=>rfl) rfl rfl rfl fun _=> ?_;refine ab [1,2,5,7,8,9,13,14,15,61,62] ?_;rw[pf,Int.toNat_natCast];refine ae (aa 4 rfl (ab [1,2,5,7,8,9,13,14,15,61,62,71,72] ?_));refine aE (fX (fun(i:Nat)(f2:Nat→Rat)=>p.lp.m-i) (fun(i:Nat)(f2:Nat→Rat)=>put (put (put (put (put (put (put (put (put (put (put (put (put (emp) 1 (.val (cv))) 2 (.box [fv,kK])) 5 (.box [.bool false,.slice none 0 0,.slice none 0 0])) 7 (.box [.slice G.Ar p.lp.m G.cr,.slice Ab p.lp.m cb])) 8 (.val (.int .i64 (p.u:Int)))) 9 (.box [.bool t9.f,.slice t9.A1 t9.m1 t9.c1,.slice t9.A2 t9.m2 t9.c2])) 13 (.val (.int .i64 (W:Int)))) 14 (.val (.slice (some ⟨z,0,none⟩) W W))) 15 (.val (.int .i64 (k:Int)))) 61 (.val (.int .i64 (W:Int)))) 62 (.val (.int .i64 (k:Int)))) 71 (.val (.int .i64 (p.lp.m:Int)))) 72 (.val (.int .i64 (i:Int)))) (fun(i:Nat)(f2:Nat→Rat) H'=>SZ (lP W f2 (k+1)) (rem H3 G.gs) H' G p.lp.m W p.lp.m (dM p) p.unit (.slice none 0 0) [] z∧(∀j,j<k→f2 j=ru p (dM p) j)∧f2 k=rA p (dM p) k i∧i≤p.lp.m) 0 (bT f k 0) (⟨vA,fun j hj=>by rw[pc (by omega)];exact MZ j hj,by rw[re,aa2],Nat.zero_le _⟩) ar ?_)
   rintro i f2 H6 ⟨hV,CE,Jk,hi⟩;obtain⟨ws,tf,nI⟩:=hV.row;have pJ:=Jf nI (show k+1≤W by omega);refine ae (aa 1 rfl (ab [1,2,5,7,8,9,13,14,15,61,62,71,72,73] ?_));refine ao (aD rfl (fun hb=> ?_) (fun hb=> ?_))
   ·
    have aO:i<p.lp.m:=by simpa using hb
    have ye:=fJ (t:=z::(aC (.slice none 0 0)++G.top)) (by rw[←hW];exact hV.q) i aO;refine aw (ah [1,2,5,7,8,9,13,14,15,61,62,71,72] rfl ?_);refine ao (aE (ae (aa 2 rfl (ab [1,2,5,7,8,9,13,14,15,16,61,62,71,72] ?_))));refine kT (fun(b0:Bool)=>put (put (put (put (put (put (put (put (put (put (put (put (put (put (put (emp) 1 (.val (cv))) 2 (.box [fv,kK])) 5 (.box [.bool false,.slice none 0 0,.slice none 0 0])) 7 (.box [.slice G.Ar p.lp.m G.cr,.slice Ab p.lp.m cb])) 8 (.val (.int .i64 (p.u:Int)))) 9 (.box [.bool t9.f,.slice t9.A1 t9.m1 t9.c1,.slice t9.A2 t9.m2 t9.c2])) 13 (.val (.int .i64 (W:Int)))) 14 (.val (.slice (some ⟨z,0,none⟩) W W))) 15 (.val (.int .i64 (k:Int)))) 16 (.val (.int .i64 (i:Int)))) 61 (.val (.int .i64 (W:Int)))) 62 (.val (.int .i64 (k:Int)))) 71 (.val (.int .i64 (p.lp.m:Int)))) 72 (.val (.int .i64 (i:Int)))) 92 (.val (.bool b0))) (fun(b0:Bool) H'=>H'=H6∧(b0=true↔p.u≤p.unit i∧(k<p.u∨k=p.w))) ?_ ?_
    ·
     by_cases h1:p.u≤p.unit i
     ·
      skip
      by_cases h2:k<p.u
      ·
       skip
       refine aA rfl (aa 3 rfl (aS ag rfl rfl rfl rfl rfl (ye) (by rw[Int.toNat_natCast];exact gQ aO) (by omega) (by omega) fun _=> ?_));refine aa 1 rfl (aG true rfl rfl (lT (by omega)) (aa 3 rfl (aG true rfl rfl (je (by omega)) (aa 7 rfl (au ?_)))));exact⟨_,ar,rfl,by simp[h1,h2]⟩
      skip
      by_cases h3:k=p.w
      ·
       skip
       refine aA rfl (aa 3 rfl (aS ag rfl rfl rfl rfl rfl (ye) (by rw[Int.toNat_natCast];exact gQ aO) (by omega) (by omega) fun _=> ?_));refine aa 1 rfl (aG true rfl rfl (lT (by omega)) (aa 3 rfl (aG false rfl rfl (iq (by omega)) (aa 3 rfl (cQ rfl rfl ⟨by omega,by omega⟩ (aG true rfl rfl (gi (by omega)) (aa 2 rfl (au ?_))))))));exact⟨_,ar,rfl,by simp[h1,h3]⟩
      skip
      refine aA rfl (aa 3 rfl (aS ag rfl rfl rfl rfl rfl (ye) (by rw[Int.toNat_natCast];exact gQ aO) (by omega) (by omega) fun _=> ?_));refine aa 1 rfl (aG true rfl rfl (lT (by omega)) (aa 3 rfl (aG false rfl rfl (iq (by omega)) (aa 3 rfl (cQ rfl rfl ⟨by omega,by omega⟩ (aG false rfl rfl (jn (by omega)) (aa 2 rfl (au ?_))))))));exact⟨_,ar,rfl,by simp[h1,h2,h3]⟩
     skip
     refine aA rfl (aa 3 rfl (aS ag rfl rfl rfl rfl rfl (ye) (by rw[Int.toNat_natCast];exact gQ aO) (by omega) (by omega) fun _=> ?_));refine aa 1 rfl (aG false rfl rfl (pE (by omega)) (aa 11 rfl (au ?_)));exact⟨_,ar,rfl,by simp[h1]⟩
    rintro b0 H9 ⟨e9,gM⟩;rw[e9];clear e9 H9;refine aD rfl (fun hb=> ?_) (fun hb=> ?_)
    ·
     have SQ:=gM.1 (by simpa using hb);obtain⟨pi,cX⟩:=lV.get aO;obtain⟨xi8,si8,SR,SS⟩:=hV.q.ry (G:=G.on _) cX;obtain⟨t5,xo,l4⟩:=aln nI (Nat.lt_succ_self k) (show k+1≤W by omega);obtain⟨t6,y8,pT⟩:=mc SS fk
     have sQ:aM (f2 k)≤2*L:=by rw[Jk];exact ali bO hf (by omega)
     have vM:aM (dM p i k)≤L:=abu bO hf aO (by omega);refine eK .gD [0,1,2,3,4,5,6,7,8,9,10,11,12,13,14,15,16] follows (gV [0,0,0,0,12,28,0,64,0,448,960,0,4032,8128,16380,32767,65535] (by kernel_rfl)) ?_;refine aa 4 rfl (bY (vs:=[.bool t5.f,.slice t5.A1 t5.m1 t5.c1,.slice t5.A2 t5.m2 t5.c2]) ag rfl rfl rfl rfl (dQ tf) rfl (by decide) (by rw[Int.toNat_natCast];exact l4) (by omega) (by omega) fun _=> ?_);refine aa 3 rfl (aS ag rfl rfl rfl rfl rfl (hV.q.hd) (by rw[Int.toNat_natCast];exact kp (rg:=G.rg) (W:=_) cX) (by omega) (by omega) fun _=> ?_);refine aa 1 rfl (bY (vs:=[.bool t6.f,.slice t6.A1 t6.m1 t6.c1,.slice t6.A2 t6.m2 t6.c2]) ag rfl rfl rfl rfl (dQ SR) rfl (by decide) (by rw[Int.toNat_natCast];exact pT) (by omega) (by omega) fun _=> ?_);refine aW rfl rfl (Fn.kq hV.q.ne (Ed (N:=2*L) ((bH.raw xo).mono sQ) ((bH.raw y8).mono (by omega)) (by omega))) (fun _ _ h=>by first | exact h.le | exact h.1) ?_;rintro v8 H8 gC;obtain⟨t8,rfl,eJ⟩:=gC.val;have rC:=(gC.kept.same z SZ.mO).trans tf;obtain⟨ti,aj,ak⟩:=aX;refine cT (.inr rfl) ag rfl rfl rfl (by omega) (by omega) (rC) rfl (by show 0+W*3≤ws.length;omega) aj ak (fun _=>rfl) rfl rfl rfl fun _=> ?_;refine au ?_;rw[pf,Int.toNat_natCast];have SU:=hV.set gC.kept (alk (Tg _ _ _ gC.kept.le nI) fk (show cg _ [_,_,_] _ from eJ))
     refine ah [1,2,5,7,8,9,13,14,15,61,62,71,72] rfl ?_;refine aA rfl (aF rfl rfl ⟨by omega,by omega⟩ (aa 1 rfl (au ?_)));exact⟨i+1,bT f2 k (f2 k-dM p i k),by omega,ar,SU,fun j hj=>by rw[pc (by omega)];exact CE j hj,by rw[re,Jk,aa3 SQ],by omega⟩
    have I9:¬(p.u≤p.unit i∧(k<p.u∨k=p.w)):=fun h9=>by have:=gM.2 h9;simp[this]at hb
    refine aw (ah [1,2,5,7,8,9,13,14,15,61,62,71,72] rfl ?_);refine aA rfl (aF rfl rfl ⟨by omega,by omega⟩ (aa 1 rfl (au ?_)));exact⟨i+1,f2,by omega,ar,hV,CE,by rw[Jk,aa4 I9],by omega⟩
   have aO:p.lp.m≤i:=by simpa using hb
   obtain rfl:i=p.lp.m:=by omega
   refine aU (ah [1,2,5,7,8,9,13,14,61,62] rfl ?_);refine aA rfl (aF rfl rfl ⟨by omega,by omega⟩ (aa 1 rfl (au ?_)));rw[aa5]at Jk
   exact⟨k+1,f2,by omega,ar,hV,fun j hj=>by
    by_cases ej:j=k
    ·subst ej;exact Jk
    ·exact CE j (by omega),by omega⟩
  have fk:W≤k:=by simpa using hb
  have ek:k=W:=by omega
  rw[ek]at hS MZ;have CD:=hS.to (C':=ll W f) fun _ h=>M8 h;refine aU (ah [1,2,5,7,8,9,13,14] rfl ?_);refine ae (aa 3 rfl (cS Tryz.underlying84 AK rfl rfl rfl rfl rfl rfl rfl ?_));intro gb a6;have hS7:=CD.fresh zW (e:=whole [.slice (some ⟨z,0,none⟩) W W] 28) a6;refine eD Tryz.underlying84 AK rfl rfl hS7.q.rows (eN _ _ _ _ _ _) rfl (BP _ _ _) (by omega) (by omega) ?_;intro v8 H8 nV;obtain⟨A9,c9,rfl⟩:=nV.own.form;have rh:=hS7.more (MU nV);obtain⟨uh,ea⟩:=rh.drop;obtain⟨M9,uX⟩:∃M9,M9=(fun i=>if i=p.lp.m then f else dM p i):=⟨_,rfl⟩;rw[←uX]at uh
  have hT9:mb p (yb M9 p.unit p.lp.m p.w):=by
   refine aaK bO (fun i hi j hj=>by rw[uX];show (if i=p.lp.m then f else dM p i) j=_;rw[if_neg (by omega)]) (fun j hj=> ?_)
   have e7:ru p M9 j=ru p (dM p) j:=by
    unfold ru
    split
    ·
     refine congrArg (fun x:Rat=> -x) (eG fun i hi=> ?_);rw[uX]
     show (if _ then(if i=p.lp.m then f else dM p i) j else 0)=_
     rw[if_neg (show ¬i=p.lp.m by omega)]
    ·rfl
   rw[e7,←MZ j (by omega),uX]
   show (if p.lp.m=p.lp.m then f else _) j=_
   rw[if_pos rfl]
  obtain⟨G9,rfl,rfl,I1,uh,ea⟩:∃G9:GG,G9.Ar=A9∧G9.cr=c9∧G9.bv = .slice Ab p.lp.m cb∧cD iK H8 G9 (p.lp.m+1) (p.w+1) p.lp.m M9 p.unit∧Heap.le (rem H3 G.gs) (rem H8 G9.gs):=⟨G.more G.top z W A9 c9 p.lp.m,rfl,rfl,dy,by rw[←hW];exact uh,ea⟩;have SV:∀i,i<p.lp.m→p.unit i<p.w+1:=fun i hi=>Nat.lt_succ_of_lt (nU p hi);refine vr 1 ?_;obtain⟨ti,aj,ak⟩:=J5;refine aI (.inr rfl) rfl rfl rfl aj ak rfl rfl rfl (ab [1,2,5,7,8,9,13] ?_);refine ae (vr 2 ?_);have hI:=aaX (u:=p.u) uh (by omega) (by omega) (by omega) (fun T r s=>mb.step) hT9 MP hT9.acc SV (fun T hT=>hT.sz hf) (by omega);rw[I1]at hI;refine aB rfl rfl hI ?_;rintro _ nh ⟨EX,MW,SW,T,rfl,qN,mJ,hT,iW,SX,sw,SY⟩;have zT:=ea.trans mJ
  have Ja:∀j,j<p.u→0≤T.c j:=fun j hj=>by
   cases SW with
   | true=>rw[←iW.ec j (by omega)];exact sw rfl j hj
   | false=>
    obtain⟨s,k1,k2,k3⟩:=SY rfl;exact(hT.aaI k1 (by rw[←iW.ec s (by omega)];exact k2) fun i hi=>by rw[iW.em]at hi;rw[←iW.eA i hi s (by omega)];exact k3 i hi).elim
  obtain⟨pm,td⟩:=qN.get (Nat.lt_succ_self p.lp.m);obtain⟨xm,sm,Cp,Cq⟩:=qN.ry td;obtain⟨t10,Iq,Ma⟩:=mc Cq (show p.w<p.w+1 by omega)
  have an6:aM (EX p.lp.m p.w)≤L:=by rw[iW.ec _ (Nat.lt_succ_self _)];exact(hT.sz hf _ (Nat.lt_succ_self _)).1
  refine ab [1,2,5,7,8,9,13] ?_;refine ao (ae (aa 5 rfl (cQ rfl rfl ⟨by omega,by omega⟩ (aS ag rfl rfl rfl rfl rfl (qN.hd) (by rw[show (((p.lp.m+1:Nat):Int)-1).toNat=p.lp.m by omega];exact kp (rg:=G9.rg) (W:=_) td) (by omega) (by omega) fun _=> ?_))));refine aa 1 rfl (cQ rfl rfl ⟨by omega,by omega⟩ (bY (vs:=[.bool t10.f,.slice t10.A1 t10.m1 t10.c1,.slice t10.A2 t10.m2 t10.c2]) ag rfl rfl rfl rfl (dQ Cp) rfl (by decide) (by rw[show ((W:Int)-1).toNat=p.w by omega];exact Ma) (by omega) (by omega) fun _=> ?_));refine aB rfl rfl (Fn.l0 qN.ne (sO (bH.raw Iq) (by omega))) ?_;rintro v11 ju ⟨B3,vX,rfl⟩;have zm:=qN.kept B3;have zT:=zT.trans B3.le;refine aa 1 rfl (ab [1,2,5,7,8,9,13,133] ?_);refine aD rfl (fun hb=> ?_) (fun hb=> ?_)
  ·
   have S0:p.lp.yZ:=hT.inf bO Ja (by rw[←iW.ec _ (Nat.lt_succ_self _)];exact fun h9=>by rw[h9]at hb;simp[eY]at hb);have hS:od p c 2 0:= .inr (.inl ⟨rfl,S0,rfl⟩);have hlE:=zT.trans (bF _ _);refine bN .bK [0,1,2,3] follows (by kernel_rfl) ?_;refine vr 2 ?_;obtain⟨ti,aj,ak⟩:=aX;refine aI (.inl ⟨rfl,rfl⟩) rfl rfl rfl aj ak rfl rfl rfl (aa 1 rfl (ab [4,5,6] ?_));obtain⟨Jj,uZ,u0⟩:=aX;refine az ⟨.inr rfl,_,.tmp rfl (.agg rfl Tryz.underlying38 uZ u0 (.tmp rfl (.nil))),?_⟩;exact⟨dK.trans hlE,2,t9,.slice none 0 0,0,rfl,hS,fu.le hlE,Ji hf hS,fun h9=>absurd h9 (by decide)⟩
  have h0:EX p.lp.m p.w=0:=vH (by simpa using hb);have S1:iX p 0 T:=hT.clean Ja (by rw[←iW.ec _ (Nat.lt_succ_self _)];exact h0);obtain⟨dG,jV,mK,lh,_,_,an7⟩:=zm.less;have tj:=zT.trans lh;refine aw (ah [1,2,5,7,8,9,13] rfl ?_);refine ae (aa 5 rfl (cQ rfl rfl ⟨by omega,by omega⟩ ?_));rw[show ((p.lp.m+1:Nat):Int)-1=((p.lp.m:Nat):Int) by omega];refine rR ag rfl rfl (.inl ⟨rfl,rfl⟩) (.inr ⟨_,_,rfl,rfl⟩) (by omega) (by omega) ?_;rw[yH,Nat.sub_zero,Nat.sub_zero];refine vr 1 ?_;obtain⟨ti,aj,ak⟩:=J5;refine aI (.inr rfl) rfl rfl rfl aj ak rfl rfl rfl (ab [1,2,5,7,8,9,13] ?_);refine RM jV ?_;obtain⟨iy,eA,eC,Ni,mK,tj⟩:∃iy:GG,iy.Ar=G9.Ar∧iy.cr=G9.cr∧iy.bv = .slice Ab p.lp.m cb∧cD iK dG iy p.lp.m (p.w+1) p.lp.m EX MW∧Heap.le (rem H3 G.gs) (rem dG iy.gs):=⟨G9.less p.lp.m,rfl,rfl,I1,mK,tj⟩;rw[←eA,←eC];clear jV Cp Cq ea mJ;obtain⟨MX,MY,sJ,BB⟩:=mK.th;rw[Ni]at sJ
  cases sJ
  refine ao (ae (aa 4 rfl (ab [1,2,5,7,8,9,13,145,146] ?_)));refine aE (fD (fun(i:Nat)(M1:Nat→Nat→Rat)(B1:Nat→Nat)=>p.lp.m-i) (fun(i:Nat)(M1:Nat→Nat→Rat)(B1:Nat→Nat)=>put (put (put (put (put (put (put (put (put (emp) 1 (.val (cv))) 2 (.box [fv,kK])) 5 (.box [.bool false,.slice none 0 0,.slice none 0 0])) 7 (.box [.slice iy.Ar p.lp.m iy.cr,.slice Ab p.lp.m cb])) 8 (.val (.int .i64 (p.u:Int)))) 9 (.box [.bool t9.f,.slice t9.A1 t9.m1 t9.c1,.slice t9.A2 t9.m2 t9.c2])) 13 (.val (.int .i64 (W:Int)))) 145 (.val (.int .i64 (p.lp.m:Int)))) 146 (.val (.int .i64 (i:Int)))) (fun(i:Nat)(M1:Nat→Nat→Rat)(B1:Nat→Nat) H'=>cD iK H' iy p.lp.m (p.w+1) p.lp.m M1 B1∧Heap.le (rem H3 G.gs) (rem H' iy.gs)∧(∀q,q<p.lp.m→B1 q<p.w+1)∧(∃T,iX p i T∧ie M1 B1 T p.lp.m (p.w+1))∧i≤p.lp.m) 0 EX MW (⟨mK,tj,SX,⟨T,S1,iW⟩,Nat.zero_le _⟩) ar ?_);rintro i M1 B1 lH ⟨s0,mH,zV,Cz,hi⟩;refine ae (aa 1 rfl (ab [1,2,5,7,8,9,13,145,146,147] ?_));refine ao (aD rfl (fun hb=> ?_) (fun hb=> ?_))
  ·
   have aO:i<p.lp.m:=by simpa using hb
   obtain⟨pi,cX⟩:=s0.get aO
   have S3:(∃T,iX p i T∧ie M1 B1 T p.lp.m (p.w+1)∧p.u≤B1 i∧∀j,j<0→M1 i j=0)∨(B1 i<p.u∧∃T,iX p (i+1) T∧ie M1 B1 T p.lp.m (p.w+1)):=by
    obtain⟨T,k1,k2⟩:=Cz
    by_cases hu:B1 i<p.u
    ·exact .inr ⟨hu,T,k1.skip (by rw[k2.em];exact aO) (.inl (by rw[←k2.eB i aO];exact hu)),k2⟩
    ·exact .inl ⟨T,k1,k2,by omega,fun j hj=>absurd hj (Nat.not_lt_zero _)⟩
   refine aw (ah [1,2,5,7,8,9,13,145,146] rfl ?_);refine ao (aE (ae (aa 2 rfl (ab [1,2,5,7,8,9,13,17,145,146] ?_))));refine ae (aa 1 rfl (ab [1,2,5,7,8,9,13,17,18,145,146] ?_));refine aE (fD (fun(k:Nat)(M2:Nat→Nat→Rat)(B2:Nat→Nat)=>p.u-k) (fun(k:Nat)(M2:Nat→Nat→Rat)(B2:Nat→Nat)=>put (put (put (put (put (put (put (put (put (put (put (emp) 1 (.val (cv))) 2 (.box [fv,kK])) 5 (.box [.bool false,.slice none 0 0,.slice none 0 0])) 7 (.box [.slice iy.Ar p.lp.m iy.cr,.slice Ab p.lp.m cb])) 8 (.val (.int .i64 (p.u:Int)))) 9 (.box [.bool t9.f,.slice t9.A1 t9.m1 t9.c1,.slice t9.A2 t9.m2 t9.c2])) 13 (.val (.int .i64 (W:Int)))) 17 (.val (.int .i64 (i:Int)))) 18 (.val (.int .i64 (k:Int)))) 145 (.val (.int .i64 (p.lp.m:Int)))) 146 (.val (.int .i64 (i:Int)))) (fun(k:Nat)(M2:Nat→Nat→Rat)(B2:Nat→Nat) H'=>cD iK H' iy p.lp.m (p.w+1) p.lp.m M2 B2∧Heap.le (rem H3 G.gs) (rem H' iy.gs)∧(∀q,q<p.lp.m→B2 q<p.w+1)∧((∃T,iX p i T∧ie M2 B2 T p.lp.m (p.w+1)∧p.u≤B2 i∧∀j,j<k→M2 i j=0)∨(B2 i<p.u∧∃T,iX p (i+1) T∧ie M2 B2 T p.lp.m (p.w+1)))∧k≤p.u) 0 M1 B1 (⟨s0,mH,zV,S3,Nat.zero_le _⟩) ar ?_);rintro k M2 B2 qa ⟨oY,zO,Nj,Tt,K8⟩;have abx:=BB (t:=iy.top) oY i aO;refine ao ?_
   by_cases Cr:k<p.u
   ·
    skip
    by_cases h2u:p.u≤B2 i
    ·
     obtain⟨an8,an9,MQ,alq⟩:=oY.ry cX;obtain⟨t14,xV,IN⟩:=mc alq (show k<p.w+1 by omega)
     obtain⟨T2,k1,k2,k3,k4⟩:∃T,iX p i T∧ie M2 B2 T p.lp.m (p.w+1)∧p.u≤B2 i∧∀j,j<k→M2 i j=0:=by
      rcases Tt with h9 | ⟨h9,_⟩
      ·exact h9
      ·omega
     have yc:∀q,q<p.lp.m→∀j,j<p.w+1→aM (M2 q j)≤L:=fun q hq j hj=>by rw[k2.eA q hq j hj];exact k1.sz hf j hj q hq
     have aoa:=yc i aO k (by omega);refine ae (aa 2 rfl (aG true rfl rfl (je (by omega)) (aa 4 rfl (aS ag rfl rfl rfl rfl rfl (abx) (by rw[Int.toNat_natCast];exact gQ aO) (by omega) (by omega) fun _=> ?_))));refine aa 1 rfl (aG true rfl rfl (lT (by omega)) (aa 1 rfl (ab [1,2,5,7,8,9,13,17,18,145,146,160] ?_)));refine cI rfl (aw (ah [1,2,5,7,8,9,13,17,18,145,146] rfl ?_));refine ao (aE (ae (aa 3 rfl (aS ag rfl rfl rfl rfl rfl (oY.hd) (by rw[Int.toNat_natCast];exact kp (rg:=iy.rg) (W:=_) cX) (by omega) (by omega) fun _=> ?_))));refine aa 1 rfl (bY (vs:=[.bool t14.f,.slice t14.A1 t14.m1 t14.c1,.slice t14.A2 t14.m2 t14.c2]) ag rfl rfl rfl rfl (dQ MQ) rfl (by decide) (by rw[Int.toNat_natCast];exact IN) (by omega) (by omega) fun _=> ?_);refine aB rfl rfl (Fn.l0 oY.ne (sO (bH.raw xV) (by omega))) ?_;rintro R3 mL ⟨Tu,aob,rfl⟩;have zA:=oY.kept Tu;refine aa 1 rfl (ab [1,2,5,7,8,9,13,17,18,145,146,172] ?_);refine aD rfl (fun hb=> ?_) (fun hb=> ?_)
     ·
      have bA:M2 i k≠0:=fun h9=>by rw[h9]at hb;simp[eY]at hb
      have hP2:=k1.pivot (by rw[k2.em];exact aO) (by rw[←k2.eB i aO];exact k3) Cr (by rw[←k2.eA i aO k (by omega)];exact bA)
      have hzP:∀q,q<p.lp.m→∀j,j<p.w+1→aM (ma M2 i k q j)≤L:=fun q hq j hj=>by
       have h9:=k2.pivot (M':=ma M2 i k) aO (show k<p.w+1 by omega) fun _ _ _ _=>rfl;rw[h9.eA q hq j hj];exact hP2.sz hf j hj q hq
      refine aA rfl (vr 3 ?_);have hP:=aaP zA aO aO (show k<p.w+1 by omega) bA yc hzP (by omega) (by omega) (by omega);rw[Ni]at hP;refine aB rfl rfl hP ?_;rintro v16 E0 ⟨M3,Nk,alr,Tv⟩;refine au (ah [1,2,5,7,8,9,13,17,18,145,146] rfl ?_);refine aA rfl (aa 1 rfl (aF rfl rfl ⟨by omega,by omega⟩ (aa 1 rfl (au ?_))));obtain⟨M5,wk⟩:∃M5:Nat→Nat→Rat,M5=fun q=>if q=p.lp.m then ma M2 i k p.lp.m else M3 q:=⟨_,rfl⟩
      have Jb:∀q,q<p.lp.m→M5 q=M3 q:=fun q hq=>by rw[wk];show (if q=p.lp.m then _ else M3 q)=_;rw[if_neg (by omega)]
      exact⟨k+1,M5,_,by omega,ar,Nk.Cw fun q hq j _=>by rw[Jb q hq],(zO.trans Tu.le).trans Tv,fun q hq=>by
       show (if q=i then k else B2 q)<_
       split
       ·omega
       ·
        exact Nj q hq,.inr ⟨by rw[if_pos rfl];exact Cr,T2.pivot i k,hP2,k2.pivot aO (by omega) fun q hq j hj=>by
        by_cases e:q=p.lp.m
        ·
         subst e;rw[wk]
         show (if p.lp.m=p.lp.m then _ else M3 _) j=_
         rw[if_pos rfl]
        ·rw[Jb q (by omega)];exact alr q (by omega) j hj⟩,by omega⟩
     skip
     refine aw (ah [1,2,5,7,8,9,13,17,18,145,146] rfl ?_);refine aA rfl (aa 1 rfl (aF rfl rfl ⟨by omega,by omega⟩ (aa 1 rfl (au ?_))))
     exact⟨k+1,M2,B2,by omega,ar,zA,zO.trans Tu.le,Nj,.inl ⟨T2,k1,k2,k3,fun j hj=>by
      by_cases e:j=k
      ·subst e;exact vH (by simpa using hb)
      ·exact k4 j (by omega)⟩,by omega⟩
    have hD:∃T,iX p (i+1) T∧ie M2 B2 T p.lp.m (p.w+1):=by
     rcases Tt with ⟨T,_,_,k3,_⟩ | h8
     ·omega
     ·exact h8.2
    refine ae (aa 2 rfl (aG true rfl rfl (je (by omega)) (aa 4 rfl (aS ag rfl rfl rfl rfl rfl (abx) (by rw[Int.toNat_natCast];exact gQ aO) (by omega) (by omega) fun _=> ?_))));refine aa 1 rfl (aG false rfl rfl (pE (by omega)) (aa 1 rfl (ab [1,2,5,7,8,9,13,17,18,145,146,160] ?_)));refine dd rfl (aU (ah [1,2,5,7,8,9,13,145,146] rfl ?_));refine aA rfl (aF rfl rfl ⟨by omega,by omega⟩ (aa 1 rfl (au ?_)));exact⟨i+1,M2,B2,by omega,ar,oY,zO,Nj,hD,by omega⟩
   have hD:∃T,iX p (i+1) T∧ie M2 B2 T p.lp.m (p.w+1):=by
    rcases Tt with ⟨T,k1,k2,k3,k4⟩ | h8
    ·exact⟨T,k1.skip (by rw[k2.em];exact aO) (.inr fun j hj=>by rw[←k2.eA i aO j (by omega)];exact k4 j (by omega)),k2⟩
    ·exact h8.2
   refine ae (aa 2 rfl (aG false rfl rfl (iq (by omega)) (aa 9 rfl (ab [1,2,5,7,8,9,13,17,18,145,146,160] ?_))));refine dd rfl (aU (ah [1,2,5,7,8,9,13,145,146] rfl ?_));refine aA rfl (aF rfl rfl ⟨by omega,by omega⟩ (aa 1 rfl (au ?_)));exact⟨i+1,M2,B2,by omega,ar,oY,zO,Nj,hD,by omega⟩
  have aO:p.lp.m≤i:=by simpa using hb
  obtain rfl:i=p.lp.m:=by omega
  obtain⟨T3,Tx,Tz⟩:=Cz;have yg:=dK.trans mH
  have Nd:=alf (N1:=2*L) s0 (Nat.le_refl _) (hp.le yg) (hc.le (pS N) yg) fj (by omega) zV (by omega) (by omega) (by omega) (by omega) (fun i hi k hk=>alj hf Tx Tz hi hk) (fun i hi k hk=>by
   rw[Tz.eA i hi k hk];have:=Tx.sz hf k hk i hi
   omega)
  rw[Ni,←hW]at Nd;refine aU (ah [1,2,5,7,8,9,13] rfl ?_);refine bN .bK [0,1,2,3,4,5,6,7,8,9,10] follows (by kernel_rfl) ?_;refine aa 6 rfl (aW rfl rfl Nd (fun _ _ ⟨_,_,_,h⟩=>h) ?_);rintro _ mL ⟨z5,rfl,qc,aoc⟩;refine cS Tryz.underlying84 AK rfl rfl rfl rfl rfl rfl rfl ?_;intro gb a6;have Nl:=qc.fresh zW (e:=whole [.slice (some ⟨z5,0,none⟩) W W] 28) a6;refine eD Tryz.underlying84 AK rfl rfl Nl.q.rows (eN _ _ _ _ _ _) rfl (BP _ _ _) (by omega) (by omega) ?_;intro v16 E0 E1;obtain⟨S4,S5,rfl⟩:=E1.own.form;have als:=Nl.more (MU E1);obtain⟨Nn,vY⟩:=als.drop;have vY:=mH.trans vY;obtain⟨wm,CA⟩:∃wm,wm=(fun i=>if i=p.lp.m then lN M1 B1 (fe p (fn c) 1 p.lp.n) p.lp.m else M1 i):=⟨_,rfl⟩;rw[←CA]at Nn
  have aby:oc p c (yb wm B1 p.lp.m p.w):=aaM Tx Tz (fun i hi j hj=>by rw[CA];show (if i=p.lp.m then _ else M1 i) j=_;rw[if_neg (by omega)]) (fun j hj=>by
   rw[CA]
   show (if p.lp.m=p.lp.m then(_:Nat→Rat)else _) j=_
   rw[if_pos rfl])
  obtain⟨E5,rfl,rfl,abz,Nn,vY⟩:∃E5:GG,E5.Ar=S4∧E5.cr=S5∧E5.bv = .slice Ab p.lp.m cb∧cD iK E0 E5 (p.lp.m+1) (p.w+1) p.lp.m wm B1∧Heap.le (rem H3 G.gs) (rem E0 E5.gs):=⟨iy.more iy.top z5 W S4 S5 p.lp.m,rfl,rfl,Ni,by rw[←hW];exact Nn,vY⟩;refine vr 1 ?_;obtain⟨ti,aj,ak⟩:=J5;refine aI (.inr rfl) rfl rfl rfl aj ak rfl rfl rfl (ab [1,2,5,7,8,9,13] ?_);refine ae (vr 2 ?_);have hI:=aaX (u:=p.u) Nn (by omega) (by omega) (by omega) (fun T r s=>oc.step) aby MP aby.acc zV (fun T hT=>hT.sz hf) (by omega);rw[abz]at hI;refine aB rfl rfl hI ?_;rintro _ S6 ⟨S7,S8,Jc,T2,rfl,alu,S9,CB,rD,M0,Ta,Tc⟩;have EK:=vY.trans S9
  have hV:=alg (N1:=L) alu (by omega) (hp.le (dK.trans EK)) (by omega) (by omega) M0 (by omega) (by omega) (by omega) hL1 (fun i hi=>by
   rw[rD.eA i hi _ (by omega)];exact(CB.sz hf _ (by omega)).2 i hi)
  rw[abz,←hW,show W-1=p.w by omega]at hV
  have hvz:∀q,q∈aK (jJ p (iL S7 S8 p.w p.lp.m)) p.free.length→aM q≤2*L+17:=fun q hq=>by
   obtain⟨j,hj,rfl⟩:=B0 hq;have:=ale (p:=p) (fun j=>abr (M:=S7) (B:=S8) (n:=p.w) (N:=L) hL1 (fun i hi=>by rw[rD.eA i hi _ (by omega)];exact(CB.sz hf _ (by omega)).2 i hi) j p.lp.m (Nat.le_refl _)) j
   omega
  refine aa 1 rfl (ab [1,2,5,7,9,13,19] ?_);refine ae (aa 3 rfl (aB rfl rfl hV ?_));rintro xv Rm ⟨Jd,Je⟩;have Np:=(EK.trans (bF _ _)).trans Jd;refine aa 1 rfl (ab [1,5,9,19,20] ?_);refine ao (ae (aa 2 rfl (ab [1,5,9,20,196] ?_)));refine aD rfl (fun hb=> ?_) (fun hb=> ?_)
  ·
   have hb:Jc=false:=by simpa using hb
   obtain⟨s2,k1,k2,k3⟩:=Tc hb
   have hS:od p c 3 0:=CB.unb bO fj k1 (by rw[←rD.ec s2 (by omega)];exact k2) fun i hi=>by rw[rD.em]at hi;rw[←rD.eA i hi s2 (by omega)];exact k3 i hi
   refine bN .bK [0,1,2,3,4] follows (by kernel_rfl) ?_;refine vr 3 ?_;obtain⟨ti,aj,ak⟩:=aX;refine aI (.inl ⟨rfl,rfl⟩) rfl rfl rfl aj ak rfl rfl rfl (aa 1 rfl (ab [4,5,6] ?_));obtain⟨Jj,uZ,u0⟩:=aX;refine az ⟨.inr rfl,_,.tmp rfl (.agg rfl Tryz.underlying38 uZ u0 (.tmp rfl (.nil))),?_⟩;exact⟨dK.trans Np,3,t9,xv,0,rfl,hS,fu.le Np,Ji hf hS,fun h9=>absurd h9 (by decide)⟩
  have hb:Jc=true:=by simpa using hb
  have Td:∀j,j<p.u→0≤T2.c j:=fun j hj=>by rw[←rD.ec j (by omega)];exact Ta hb j hj
  have hS:=CB.opt bO fj Td rD;refine aw (ah [1,5,20] rfl ?_);refine ae (aa 2 rfl (aB rfl rfl (aaY (N:=400000000) ((hc.le (pS N) (dK.trans Np)).abv hN) (Je.zC fun q hq=>Nat.le_trans (hvz q hq) (by omega)) (by rw[bh];omega) (by omega) (Nat.le_refl _)) ?_));rintro _ Et ⟨Nq,t20,rfl,uk⟩;rw[fj]at uk;refine vr 2 ?_;obtain⟨ti,aj,ak⟩:=aX;refine aI (.inl ⟨rfl,rfl⟩) rfl rfl rfl aj ak rfl rfl rfl (aa 1 rfl (ab [4,5,6] ?_));obtain⟨Jj,uZ,u0⟩:=aX;refine az ⟨.inr rfl,_,.tmp rfl (.agg rfl Tryz.underlying38 uZ u0 (.tmp rfl (.nil))),?_⟩;exact⟨(dK.trans Np).trans Nq,1,t20,xv,_,rfl,hS,uk,Ji hf hS,fun _=>⟨_,Je.le ef Nq,bh _ _,hvz,rfl⟩⟩
end Go.aq
namespace Go.aq
open Go.Proofs Num Lp
structure zY(l:List (Int×Int))(n:Nat):Prop where
 term:∀(i:Nat)(t:Int×Int),i<n→l[i]? = some t→t.2≠0∧-1048576≤t.2∧t.2≤1048576∧-1≤t.1∧t.1<3000
 Ix:∀(i:Nat)(a b:Int×Int),i+1<n→l[i]? = some a→l[i+1]? = some b→a.1<b.1
theorem abA(l:List (Int×Int)):zY l 0:=⟨fun i t h=>by omega,fun i a b h=>by omega⟩
theorem zY.next{l:List (Int×Int)}{i:Nat}(h:zY l i){t:Int×Int}(ht:l[i]? = some t)(h1: -1≤t.1∧t.1<3000)(h2:t.2≠0)(h3: -1048576≤t.2∧t.2≤1048576)(h4:∀(j:Nat)(a:Int×Int),j+1=i→l[j]? = some a→a.1<t.1):zY l (i+1):=by
 refine⟨fun j u hj hu=> ?_,fun j a b hj ha hb=> ?_⟩
 ·by_cases e:j<i
  ·exact h.term j u e hu
  ·obtain rfl:j=i:=by omega
   rw[ht]at hu;cases hu
   exact⟨h2,h3.1,h3.2,h1.1,h1.2⟩
 ·by_cases e:j+1<i
  ·exact h.Ix j a b e ha hb
  ·have e:j+1=i:=by omega
   rw[e,ht]at hb;cases hb
   exact h4 j a e ha
theorem zY.lin{f:aJ}(h:zY f.ts f.ts.length)(h1: -1048576≤f.c∧f.c≤1048576)(h2:f.ts.length≤16):eV f:=
 ⟨h1,h2,fun i t ht=>h.term i t (List.getElem?_eq_some_iff.1 ht).1 ht,fun i a b ha hb=>h.Ix i a b (List.getElem?_eq_some_iff.1 hb).1 ha hb⟩
theorem Jl{H:Heap}{n:Int}:
 Fn Tryz.prog 46 #[.int .i64 n] H (j8 H (.bool (decide (-1048576≤n∧n≤1048576)))):=by
 refine aY (args:=[_]) Tryz.func46 rfl rfl Tryz.ntmps46 rfl rfl fun w0=> ?_;refine ah [0] rfl ?_;refine ae (aa 1 rfl (ab [0] ?_))
 by_cases h1: -1048576≤n
 ·
  skip
  refine ae (aa 1 rfl (aG true rfl rfl (rW h1) (aa 5 rfl (ab [2] ?_))));refine az ⟨.inr rfl,_,.tmp rfl (.nil),?_⟩;exact⟨rfl,congrArg Value.bool (by simp[h1])⟩
 ·
  skip
  refine ae (aa 1 rfl (aG false rfl rfl (AL (by omega)) (aa 5 rfl (ab [2] ?_))));refine az ⟨.inr rfl,_,.tmp rfl (.nil),?_⟩;exact⟨rfl,congrArg Value.bool (by simp[h1])⟩
theorem abB{H:Heap}{n:Int}:
 Fn Tryz.prog 47 #[.int .i64 n] H (j8 H (.bool (decide (-1≤n∧n<3000)))):=by
 refine aY (args:=[_]) Tryz.func47 rfl rfl Tryz.ntmps47 rfl rfl fun w0=> ?_;refine ah [0] rfl ?_;refine ae (aa 1 rfl (ab [0] ?_))
 by_cases h1: -1≤n
 ·
  skip
  refine ae (aa 1 rfl (aG true rfl rfl (lT h1) (aa 5 rfl (ab [2] ?_))));refine az ⟨.inr rfl,_,.tmp rfl (.nil),?_⟩;exact⟨rfl,congrArg Value.bool (by simp[h1])⟩
 ·
  skip
  refine ae (aa 1 rfl (aG false rfl rfl (pE (by omega)) (aa 5 rfl (ab [2] ?_))));refine az ⟨.inr rfl,_,.tmp rfl (.nil),?_⟩;exact⟨rfl,congrArg Value.bool (by simp[h1])⟩
theorem TA{H:Heap}{f:aJ}{A:Option Addr}{c:Nat}(hf:aN gX 2 H (.slice A f.ts.length c) f.ts):
 Fn Tryz.prog 20 #[.agg #[.int .i64 f.c,.slice A f.ts.length c]] H (fun v' H'=>H'=H∧∃b,v' = .bool b∧(b=true↔eV f)):=by
 obtain⟨A',c',xs,e,hc,hr,hx⟩:=id hf
 cases e
 refine aY (args:=[_]) Tryz.func20 rfl rfl Tryz.ntmps20 rfl rfl fun w0=> ?_;refine ah [0] rfl ?_;refine ae (bZ rfl rfl (aa 1 rfl (ab [1] ?_)));refine ao ?_
 by_cases h1: -1048576≤f.c∧f.c≤1048576
 ·
  skip
  by_cases h2:(16:Int)<(f.ts.length:Int)
  ·
   skip
   refine ae (aa 2 rfl (aB rfl rfl (Jl.bt (decide_eq_true h1)) ?_));rintro _ H2 ⟨e2,rfl⟩;rw[e2];refine aa 5 rfl (aG true rfl rfl (oB h2) (aa 1 rfl (ab [1,14] ?_)));refine cI rfl (ae (aa 1 rfl (ab [2] ?_)));refine az ⟨.inr rfl,_,.tmp rfl (.nil),?_⟩;exact⟨rfl,false,rfl,⟨(fun h=>by cases h),fun h=>absurd h.len (by omega)⟩⟩
  ·
   skip
   refine ae (aa 2 rfl (aB rfl rfl (Jl.bt (decide_eq_true h1)) ?_));rintro _ H2 ⟨e2,rfl⟩;rw[e2];refine aa 5 rfl (aG false rfl rfl (kA (by omega)) (aa 1 rfl (ab [1,14] ?_)));refine dd rfl (aw (ah [1] rfl ?_));refine ao (ae (aa 4 rfl (ab [1,16,17,18] ?_)));refine aE (fI (fun(i:Nat)=>f.ts.length-i) (fun(i:Nat)=>put (put (put (put (emp) 1 (.box [.int .i64 f.c,.slice A f.ts.length c])) 16 (.val (.slice A f.ts.length c))) 17 (.val (.int .i64 (f.ts.length:Int)))) 18 (.val (.int .i64 (i:Int)))) (fun(i:Nat) H'=>H'=H∧i≤f.ts.length∧zY f.ts i) 0 (⟨rfl,Nat.zero_le _,abA _⟩) ar ?_);rintro i H1 ⟨e1,hi,hk⟩;rw[e1];refine ae (aa 1 rfl (ab [1,16,17,18,19] ?_));refine ao (aD rfl (fun hb=> ?_) (fun hb=> ?_))
   ·
    have aO:i<f.ts.length:=by simpa using hb
    obtain⟨t,ht⟩:∃t,f.ts[i]? = some t:=⟨_,List.getElem?_eq_getElem aO⟩;refine aw (ah [1,16,17,18] rfl ?_);refine ao (aE (ae (aa 1 rfl (bY ag rfl rfl rfl rfl (hr) rfl (by decide) (xO hx ht) (by omega) (by omega) fun _=>(bm rT rfl (vr 1 ?_))))));obtain⟨ti,aj,ak⟩:=J4;refine aI (.inl ⟨rfl,rfl⟩) rfl rfl rfl aj ak rfl rfl rfl (ab [1,3,4,16,17,18] ?_);refine bN .bK [0,1,2,3,4,5,6,7,8,9,10,11,12,13,14,15,16,17,18,19,20,21,22,23,24,25,26,27,28,29,30] follows (gV [0,1,3,7,15,31,63,127,255,511,1023,2047,4095,8191,16383,32767,65535,131071,262143,524287,1048575,524287,2621439,8388607,16777215,33554431,524287,67633151,268435455,536870911,1073741823] (by kernel_rfl)) ?_;refine vr 2 ?_
    by_cases v1: -1≤t.1∧t.1<3000
    ·
     skip
     refine aW rfl rfl (abB.bt (decide_eq_true v1)) (fun _ _ h=>by first | exact h.le | exact h.1) ?_;rintro _ H2 ⟨e2,rfl⟩;rw[e2];refine vr 4 ?_
     by_cases v2:t.2=0
     ·
      skip
      refine aG true rfl rfl (gi v2) (aa 23 rfl (ab [1,16,17,18,53] ?_));refine cI rfl (ae (aa 1 rfl (ab [2] ?_)));refine az ⟨.inr rfl,_,.tmp rfl (.nil),?_⟩;exact⟨rfl,false,rfl,⟨(fun h=>by cases h),fun h=>absurd v2 (h.term i t ht).1⟩⟩
     skip
     refine aG false rfl rfl (jn v2) (vr 4 ?_)
     by_cases v3: -1048576≤t.2∧t.2≤1048576
     ·
      skip
      refine aW rfl rfl (Jl.bt (decide_eq_true v3)) (fun _ _ h=>by first | exact h.le | exact h.1) ?_;rintro _ H2 ⟨e2,rfl⟩;rw[e2];refine vr 4 ?_
      by_cases v4:i=0
      ·
       skip
       refine aG false rfl rfl (kA (by omega)) (aa 13 rfl (ab [1,16,17,18,53] ?_));refine dd rfl (aw (ah [1,16,17,18] rfl ?_));refine aA rfl (aF rfl rfl ⟨by omega,by omega⟩ (aa 1 rfl (au ?_)));exact⟨i+1,by omega,ar,rfl,by omega,hk.next ht v1 v2 v3 fun j a hj ha=>by omega⟩
      obtain⟨a,ha⟩:∃a,f.ts[i-1]? = some a:=⟨_,List.getElem?_eq_getElem (by omega)⟩;have TB:=xO hx ha;refine aG true rfl rfl (oB (by omega)) (aa 4 rfl (cQ rfl rfl ⟨by omega,by omega⟩ (jW ag rfl rfl rfl rfl rfl rfl rfl (hr) (by rw[Z7 (by omega)];exact TB 0 _ rfl) (by omega) (by omega) fun _ _=> ?_)));refine vr 2 ?_
      by_cases v5:a.1<t.1
      ·
       skip
       refine aG false rfl rfl (pE v5) (aa 2 rfl (ab [1,16,17,18,53] ?_));refine dd rfl (aw (ah [1,16,17,18] rfl ?_));refine aA rfl (aF rfl rfl ⟨by omega,by omega⟩ (aa 1 rfl (au ?_)));exact⟨i+1,by omega,ar,rfl,by omega,hk.next ht v1 v2 v3 fun j b hj Jm=>by(obtain rfl:j=i-1:=by omega);rw[ha]at Jm;cases Jm;exact v5⟩
      skip
      refine aG true rfl rfl (lT (by omega)) (aa 2 rfl (ab [1,16,17,18,53] ?_));refine cI rfl (ae (aa 1 rfl (ab [2] ?_)));refine az ⟨.inr rfl,_,.tmp rfl (.nil),?_⟩;exact⟨rfl,false,rfl,⟨(fun h=>by cases h),fun h=>absurd (h.Ix (i-1) a t ha (by rw[show i-1+1=i by omega];exact ht)) v5⟩⟩
     skip
     refine aW rfl rfl (Jl.bf (decide_eq_false v3)) (fun _ _ h=>by first | exact h.le | exact h.1) ?_;rintro _ H2 ⟨e2,rfl⟩;rw[e2];refine aa 18 rfl (ab [1,16,17,18,53] ?_);refine cI rfl (ae (aa 1 rfl (ab [2] ?_)));refine az ⟨.inr rfl,_,.tmp rfl (.nil),?_⟩;exact⟨rfl,false,rfl,⟨(fun h=>by cases h),fun h=>absurd ⟨(h.term i t ht).2.1,(h.term i t ht).2.2.1⟩ v3⟩⟩
    skip
    refine aW rfl rfl (abB.bf (decide_eq_false v1)) (fun _ _ h=>by first | exact h.le | exact h.1) ?_;rintro _ H2 ⟨e2,rfl⟩;rw[e2];refine aa 28 rfl (ab [1,16,17,18,53] ?_);refine cI rfl (ae (aa 1 rfl (ab [2] ?_)));refine az ⟨.inr rfl,_,.tmp rfl (.nil),?_⟩;exact⟨rfl,false,rfl,⟨(fun h=>by cases h),fun h=>absurd ⟨(h.term i t ht).2.2.2.1,(h.term i t ht).2.2.2.2⟩ v1⟩⟩
   have hb:f.ts.length≤i:=by simpa using hb
   refine aU (ah [] rfl ?_);refine ae (aa 1 rfl (ab [2] ?_));refine az ⟨.inr rfl,_,.tmp rfl (.nil),?_⟩
   obtain rfl:i=f.ts.length:=by omega
   exact⟨rfl,true,rfl,⟨fun _=>hk.lin h1 (by omega),fun _=>rfl⟩⟩
 ·
  skip
  refine ae (aa 2 rfl (aB rfl rfl (Jl.bf (decide_eq_false h1)) ?_));rintro _ H2 ⟨e2,rfl⟩;rw[e2];refine aa 7 rfl (ab [1,14] ?_);refine cI rfl (ae (aa 1 rfl (ab [2] ?_)));refine az ⟨.inr rfl,_,.tmp rfl (.nil),?_⟩;exact⟨rfl,false,rfl,⟨(fun h=>by cases h),fun h=>absurd h.const h1⟩⟩
theorem abC{H:Heap}{v:Value}{fs:List aJ}{m n:Nat}(hv:kn H v fs)(hm:m≤1000):
 Fn Tryz.prog 18 #[v,.int .i64 (m:Int),.int .i64 (n:Int)] H (fun v' H'=>H'=H∧∃b,v' = .bool b∧(b=true↔fs.length≤m∧∀f,f∈fs→f.ts.length≤n)):=by
 obtain⟨A,c,xs,rfl,hc,hr,hx⟩:=id hv;refine aY (args:=[_,_,_]) Tryz.func18 rfl rfl Tryz.ntmps18 rfl rfl fun w0=> ?_;refine ah [0,1,2] rfl ?_;refine ae (aa 1 rfl (ab [0,1,2] ?_));refine ao (ae (aa 4 rfl (ab [0,2,11] ?_)));refine aD rfl (fun hb=> ?_) (fun hb=> ?_)
 ·
  have h1:¬fs.length≤m:=by simpa using hb
  refine ae (aa 1 rfl (ab [6] ?_));refine az ⟨.inr rfl,_,.tmp rfl (.nil),?_⟩;exact⟨rfl,false,rfl,⟨(fun h=>by cases h),fun h=>absurd h.1 h1⟩⟩
 ·
  have h1:fs.length≤m:=by simpa using hb
  refine aw (ah [0,2] rfl ?_);refine ao (ae (aa 3 rfl (ab [0,2,13,14] ?_)));refine aE (fI (fun(i:Nat)=>fs.length-i) (fun(i:Nat)=>put (put (put (put (emp) 0 (.val (.slice A fs.length c))) 2 (.val (.int .i64 (n:Int)))) 13 (.val (.int .i64 (fs.length:Int)))) 14 (.val (.int .i64 (i:Int)))) (fun(i:Nat) H'=>H'=H∧i≤fs.length∧∀(k:Nat)(f:aJ),k<i→fs[k]? = some f→f.ts.length≤n) 0 (⟨rfl,Nat.zero_le _,fun k f h=>by omega⟩) ar ?_);rintro i H1 ⟨e1,hi,hk⟩;rw[e1];refine ae (aa 1 rfl (ab [0,2,13,14,15] ?_));refine ao (aD rfl (fun hb=> ?_) (fun hb=> ?_))
  ·
   have aO:i<fs.length:=by simpa using hb
   obtain⟨f,hf⟩:∃f,fs[i]? = some f:=⟨_,List.getElem?_eq_getElem aO⟩;obtain⟨B,cb,nE,kt⟩:=uO hx hf;refine aw (ah [0,2,13,14] rfl ?_);refine ao (aE (ae (aa 2 rfl (ab [0,2,7,13,14] ?_))));refine ae (aa 2 rfl (jW ag rfl rfl rfl rfl rfl rfl rfl (hr) (kt 1 _ rfl) (by omega) (by omega) fun _ _=>(aa 3 rfl (ab [0,2,13,14,24] ?_))));refine aD rfl (fun hb=> ?_) (fun hb=> ?_)
   ·
    have h2:¬f.ts.length≤n:=by simpa using hb
    refine ae (aa 1 rfl (ab [6] ?_));refine az ⟨.inr rfl,_,.tmp rfl (.nil),?_⟩;exact⟨rfl,false,rfl,⟨(fun h=>by cases h),fun h=>absurd (h.2 f (List.mem_of_getElem? hf)) h2⟩⟩
   have h2:f.ts.length≤n:=by simpa using hb
   refine aw (ah [0,2,13,14] rfl ?_);refine aA rfl (aF rfl rfl ⟨by omega,by omega⟩ (aa 1 rfl (au ?_)));exact⟨i+1,by omega,ar,rfl,by omega,fun k f9 h9 rp=>by by_cases e:k<i;exact hk k f9 e rp;(obtain rfl:k=i:=by omega);rw[hf]at rp;cases rp;exact h2⟩
  have hb:fs.length≤i:=by simpa using hb
  refine aU (ah [] rfl ?_);refine ae (aa 1 rfl (ab [6] ?_));refine az ⟨.inr rfl,_,.tmp rfl (.nil),?_⟩;exact⟨rfl,true,rfl,⟨fun _=>⟨h1,fun f hf=>by obtain⟨k,h9⟩:=List.getElem?_of_mem hf;exact hk k f (by have:=(List.getElem?_eq_some_iff.1 h9).1;omega) h9⟩,fun _=>rfl⟩⟩
theorem TC{H:Heap}{f:aJ}{A:Option Addr}{c:Nat}{v:Int}(hf:aN gX 2 H (.slice A f.ts.length c) f.ts)(hl:f.ts.length≤1000000):
 Fn Tryz.prog 49 #[.agg #[.int .i64 f.c,.slice A f.ts.length c],.int .i64 v] H (j8 H (.int .i64 (f.bU v))):=by
 obtain⟨A',c',xs,e,hc,hr,hx⟩:=id hf
 cases e
 refine aY (args:=[_,_]) Tryz.func49 rfl rfl Tryz.ntmps49 rfl rfl fun w0=> ?_;refine ah [0,1] rfl ?_;refine ae (bZ rfl rfl (aa 1 rfl (ab [1,2] ?_)));refine ao (ae (aa 4 rfl (ab [1,8,9,10] ?_)));refine aE (fI (fun(i:Nat)=>f.ts.length-i) (fun(i:Nat)=>put (put (put (put (emp) 1 (.val (.int .i64 v))) 8 (.val (.slice A f.ts.length c))) 9 (.val (.int .i64 (f.ts.length:Int)))) 10 (.val (.int .i64 (i:Int)))) (fun(i:Nat) H'=>H'=H∧i≤f.ts.length∧f.bU v=q6 (f.ts.drop i) v) 0 (⟨rfl,Nat.zero_le _,rfl⟩) ar ?_);rintro i H1 ⟨e1,hi,hk⟩;rw[e1];refine ae (aa 1 rfl (ab [1,8,9,10,11] ?_));refine ao (aD rfl (fun hb=> ?_) (fun hb=> ?_))
 ·
  have aO:i<f.ts.length:=by simpa using hb
  obtain⟨t,ht⟩:∃t,f.ts[i]? = some t:=⟨_,List.getElem?_eq_getElem aO⟩
  have hd:f.ts.drop i=t::f.ts.drop (i+1):=by rw[List.drop_eq_getElem_cons aO,(List.getElem?_eq_some_iff.1 ht).2]
  refine aw (ah [1,8,9,10] rfl ?_);refine ao (aE (ae (bY ag rfl rfl rfl rfl (hr) rfl (by decide) (xO hx ht) (by omega) (by omega) fun _=>(bm rT rfl ?_))));obtain⟨ti,aj,ak⟩:=J4;refine aI (.inl ⟨rfl,rfl⟩) rfl rfl rfl aj ak rfl rfl rfl (ab [1,6,8,9,10] ?_);refine ae (aa 4 rfl (ab [1,6,8,9,10,17] ?_));refine aD rfl (fun hb=> ?_) (fun hb=> ?_)
  ·
   have h2:t.1=v:=by simpa using hb
   refine ae (aa 3 rfl (ab [4] ?_));refine az ⟨.inr rfl,_,.tmp rfl (.nil),?_⟩;exact⟨rfl,by rw[hk,hd,q6,if_pos h2];rfl⟩
  ·
   have h2:¬t.1=v:=by simpa using hb
   refine aw (ah [1,8,9,10] rfl ?_);refine aA rfl (aF rfl rfl ⟨by omega,by omega⟩ (aa 1 rfl (au ?_)));exact⟨i+1,by omega,ar,rfl,by omega,by rw[hk,hd,q6,if_neg h2]⟩
 ·
  have hb:f.ts.length≤i:=by simpa using hb
  refine aU (ah [] rfl ?_);refine ae (aa 1 rfl (ab [4] ?_));refine az ⟨.inr rfl,_,.tmp rfl (.nil),?_⟩;exact⟨rfl,by rw[hk,List.drop_eq_nil_of_le hb];rfl⟩
end Go.aq
namespace Go.aq
open Go.Proofs Num Lp
theorem abD{H:Heap}{v:Value}{fs:List aJ}(h:kn H v fs)(hl:fs.length≤1000000):
 Fn Tryz.prog 31 #[v] H (Mm fs H):=by
 obtain⟨A,c,xs,rfl,hc,hr,hx⟩:=id h;refine aY (args:=[_]) Tryz.func31 rfl rfl Tryz.ntmps31 rfl rfl fun w0=> ?_;refine ah [0] rfl ?_;refine ae (aa 1 rfl (ab [0] ?_));refine ao (ae (aa 1 rfl (ajo Tryz.underlying22 rfl rfl (ab [0,4] ?_))));refine aD rfl (fun hb=> ?_) (fun hb=> ?_)
 ·
  have hA:A=none:=by simpa using hb
  have ui:fs = []:=by
   cases bg:fs with
   | nil=>rfl
   | cons a k=>
    rw[bg]at hx;obtain⟨B,d,_,kt⟩:=uO hx (i:=0) (f:=a) rfl;obtain⟨ad,h9,_⟩:=hr _ _ (kt 0 _ rfl);rw[hA]at h9;cases h9
  refine ae (aa 1 rfl (ab [2] ?_));refine az ⟨.inr rfl,_,.tmp rfl (.nil),?_⟩;exact⟨[],by rw[ui];exact zD H⟩
 ·
  skip
  refine aw (ah [0] rfl ?_);refine ae (ajp Tryz.underlying22 im ?_);intro g hg;have hG:=ajq (P:=o6) (e:=25) (sz:=2) hg;refine aa 1 rfl (B9 gJ Ca (by decide) Tryz.underlying22 im rfl rfl hG (h.le gJ hG.base) (by rw[List.length_nil];omega) (by rw[List.length_nil];omega) ?_);intro v2 H2 y2 ra _;rw[List.nil_append]at ra;refine aa 1 rfl (ab [2] ?_);refine az ⟨.inr rfl,_,.tmp rfl (.nil),?_⟩;exact⟨_,ra⟩
theorem TD{H:Heap}{v:Value}{fs:List aJ}(hv:kn H v fs)(h1:fs.length≤1000)(h2:∀f,f∈fs→f.ts.length≤1000):
 Fn Tryz.prog 33 #[v] H (IC (ct fs) H):=by
 obtain⟨A,c,xs,rfl,hc,hr,hx⟩:=id hv
 have hmul:fs.length*1000≤1000*1000:=Nat.mul_le_mul_right _ h1;refine aY (args:=[_]) Tryz.func33 rfl rfl Tryz.ntmps33 rfl rfl fun w0=> ?_;refine ah [0] rfl ?_;refine ae (aa 1 rfl (ab [0] ?_));refine ae (aa 1 rfl (ab [0,3] ?_));refine ao (ae (aa 3 rfl (ab [3,8,9,10] ?_)));refine aE (fD (fun(i:Nat)(w:Value)(ys:List Value)=>fs.length-i) (fun(i:Nat)(w:Value)(ys:List Value)=>put (put (put (put (emp) 3 (.val (w))) 8 (.val (.slice A fs.length c))) 9 (.val (.int .i64 (fs.length:Int)))) 10 (.val (.int .i64 (i:Int)))) (fun(i:Nat)(w:Value)(ys:List Value) H'=>eo ke 3 1 H H' w (gW (fs.take i)) ys∧i≤fs.length) 0 (.slice none 0 0) [] (⟨zD H,Nat.zero_le _⟩) ar ?_);rintro i w ys H1 ⟨hG,hi⟩;obtain⟨W,cw,rfl⟩:=hG.form;have hlv:=Z8 h2 i;refine ae (aa 1 rfl (ab [3,8,9,10,11] ?_));refine ao (aD rfl (fun hb=> ?_) (fun hb=> ?_))
 ·
  have aO:i<fs.length:=by simpa using hb
  obtain⟨f,hf⟩:∃f,fs[i]? = some f:=⟨_,List.getElem?_eq_getElem aO⟩;have jI:=h2 f (List.mem_of_getElem? hf);obtain⟨B,cb,nE,kt⟩:=uO hx hf;obtain⟨B',EL,xb,e,DS,fJ,wx⟩:=id nE
  cases e
  refine aw (ah [3,8,9,10] rfl ?_);refine ao (aE (ae (bY ag rfl rfl rfl rfl (hr.le hG.le) rfl (by decide) (kt) (by omega) (by omega) fun _=>(bm im rfl ?_))));obtain⟨ti,aj,ak⟩:=AJ;refine aI (.inl ⟨rfl,rfl⟩) rfl rfl rfl aj ak rfl rfl rfl (ab [3,5,8,9,10] ?_);refine ae (aa 4 rfl (ab [3,8,9,10,15,16,17] ?_));refine aE (fD (fun(k:Nat)(w:Value)(ys:List Value)=>f.ts.length-k) (fun(k:Nat)(w:Value)(ys:List Value)=>put (put (put (put (put (put (put (emp) 3 (.val (w))) 8 (.val (.slice A fs.length c))) 9 (.val (.int .i64 (fs.length:Int)))) 10 (.val (.int .i64 (i:Int)))) 15 (.val (.slice B f.ts.length cb))) 16 (.val (.int .i64 (f.ts.length:Int)))) 17 (.val (.int .i64 (k:Int)))) (fun(k:Nat)(w:Value)(ys:List Value) H'=>eo ke 3 1 H H' w (gW (fs.take i)++(f.ts.take k).map (·.1)) ys∧k≤f.ts.length) 0 (.slice W (gW (fs.take i)).length cw) ys (⟨by rw[show (f.ts.take 0).map (·.1) = []from rfl,List.append_nil];exact hG,Nat.zero_le _⟩) ar ?_);rintro k w ys H2 ⟨ra,hk⟩;obtain⟨W2,CF,rfl⟩:=ra.form
  have Di:((f.ts.take k).map (·.1)).length=k:=by rw[List.length_map,List.length_take];omega
  have fY:(gW (fs.take i)++(f.ts.take k).map (·.1)).length=(gW (fs.take i)).length+k:=by rw[List.length_append,Di]
  refine ae (aa 1 rfl (ab [3,8,9,10,15,16,17,18] ?_));refine ao (aD rfl (fun hb=> ?_) (fun hb=> ?_))
  ·
   have fV:k<f.ts.length:=by simpa using hb
   obtain⟨t,ht⟩:∃t,f.ts[k]? = some t:=⟨_,List.getElem?_eq_getElem fV⟩;refine aw (ah [3,8,9,10,15,16,17] rfl ?_);refine ao (aE (ae (bY ag rfl rfl rfl rfl (fJ.le ra.le) rfl (by decide) (xO wx ht) (by omega) (by omega) fun _=>(bm rT rfl ?_))));obtain⟨ti,aj,ak⟩:=J4;refine aI (.inl ⟨rfl,rfl⟩) rfl rfl rfl aj ak rfl rfl rfl (ab [3,7,8,9,10,15,16,17] ?_);refine aA rfl (aa 3 rfl (cS Tryz.underlying49 fE rfl rfl rfl rfl rfl rfl rfl ?_));intro gb a6;refine Cd lb Cb Tryz.underlying49 fE rfl rfl ra a6 (show ke _ [_] t.1 from rfl) rfl (by rw[fY];omega) (by rw[fY];omega) ?_;intro v4 H4 y4 uQ _;refine aa 1 rfl (au (ah [3,8,9,10,15,16,17] rfl ?_));refine aA rfl (aF rfl rfl ⟨by omega,by omega⟩ (aa 1 rfl (au ?_)));exact⟨k+1,_,_,by omega,ar,by rw[uL ht,←List.append_assoc];exact uQ,by omega⟩
  ·
   have hb:f.ts.length≤k:=by simpa using hb
   obtain rfl:k=f.ts.length:=by omega
   have ra:=ra.cast (show gW (fs.take i)++(f.ts.take f.ts.length).map (·.1)=gW (fs.take i)++f.vars by rw[List.take_length];rfl);refine aU (ah [3,8,9,10] rfl ?_);refine aA rfl (aF rfl rfl ⟨by omega,by omega⟩ (aa 1 rfl (au ?_)));exact⟨i+1,_,_,by omega,ar,by rw[Z6 hf];exact ra,by omega⟩
 ·
  have hb:fs.length≤i:=by simpa using hb
  obtain rfl:i=fs.length:=by omega
  have hG:=hG.cast (show gW (fs.take fs.length)=gW fs by rw[List.take_length]);rw[List.take_length]at hlv
  have hO:bW H1 (.slice W (gW (fs.take fs.length)).length cw) 3 1 (gW fs).length (iv (gW fs)):=by rw[←ajv hG.jG];exact hG.own
  refine aU (ah [3] rfl ?_);refine ae (aa 1 rfl (aB rfl rfl (ajs hO (by omega)) ?_));rintro _ H5 ⟨rfl,hI5⟩;refine ab [3] ?_;refine ae (aa 1 rfl (aB rfl rfl (ajx hI5.cut (by rw[IB];omega)) ?_));rintro v6 H6 ⟨fM,vU⟩;rw[ajB]at vU;rw[hI5.rem]at fM;obtain⟨A6,c6,DQ,rfl,h6⟩:=id vU;refine aa 1 rfl (ab [2] ?_);refine az ⟨.inr rfl,_,.tmp rfl (.nil),?_⟩;exact⟨hG.base.trans fM,A6,c6,rfl,vU⟩
theorem TE{H:Heap}{v:Value}{fs:List aJ}(hv:kn H v fs):
 Fn Tryz.prog 19 #[v] H (fun v' H'=>Heap.le H H'∧∃b,v' = .bool b∧(b=true↔lj fs)):=by
 obtain⟨A,c,xs,rfl,hc,hr,hx⟩:=id hv;refine aY (args:=[_]) Tryz.func19 rfl rfl Tryz.ntmps19 rfl rfl fun w0=> ?_;refine ah [0] rfl ?_;refine ae (aa 1 rfl (ab [0] ?_));refine ao (ae (aa 3 rfl (ab [0,7] ?_)));refine aD rfl (fun hb=> ?_) (fun hb=> ?_)
 ·
  have h1:¬fs.length≤200:=by have h9:(200:Int)<fs.length:=(by simpa using hb);omega
  refine ae (aa 1 rfl (ab [2] ?_));refine az ⟨.inr rfl,_,.tmp rfl (.nil),?_⟩;exact⟨.refl _,false,rfl,⟨(fun h=>by cases h),fun h=>absurd h.len h1⟩⟩
 ·
  have h1:fs.length≤200:=by have h9:(fs.length:Int)≤200:=(by simpa using hb);omega
  refine aw (ah [0] rfl ?_);refine ao (ae (aa 3 rfl (ab [0,8,9,10] ?_)));refine aE (fI (fun(i:Nat)=>fs.length-i) (fun(i:Nat)=>put (put (put (put (emp) 0 (.val (.slice A fs.length c))) 8 (.val (.slice A fs.length c))) 9 (.val (.int .i64 (fs.length:Int)))) 10 (.val (.int .i64 (i:Int)))) (fun(i:Nat) H'=>H'=H∧i≤fs.length∧∀(k:Nat)(f:aJ),k<i→fs[k]? = some f→eV f) 0 (⟨rfl,Nat.zero_le _,fun k f h=>by omega⟩) ar ?_);rintro i H1 ⟨e1,hi,hk⟩;rw[e1];refine ae (aa 1 rfl (ab [0,8,9,10,11] ?_));refine ao (aD rfl (fun hb=> ?_) (fun hb=> ?_))
  ·
   have aO:i<fs.length:=by simpa using hb
   obtain⟨f,hf⟩:∃f,fs[i]? = some f:=⟨_,List.getElem?_eq_getElem aO⟩;obtain⟨B,cb,nE,kt⟩:=uO hx hf;refine aw (ah [0,8,9,10] rfl ?_);refine ao (aE (ae (bY ag rfl rfl rfl rfl (hr) rfl (by decide) (kt) (by omega) (by omega) fun _=>(bm im rfl ?_))));obtain⟨ti,aj,ak⟩:=AJ;refine aI (.inl ⟨rfl,rfl⟩) rfl rfl rfl aj ak rfl rfl rfl (ab [0,4,8,9,10] ?_);refine ae (aa 1 rfl (aB rfl rfl (TA nE) ?_));rintro _ H3 ⟨e3,b3,rfl,fZ⟩;rw[e3];refine aa 1 rfl (ab [0,8,9,10,16] ?_);refine aD rfl (fun hb=> ?_) (fun hb=> ?_)
   ·
    have sw:¬b3=true:=by simpa using hb
    refine ae (aa 1 rfl (ab [2] ?_));refine az ⟨.inr rfl,_,.tmp rfl (.nil),?_⟩;exact⟨.refl _,false,rfl,⟨(fun h=>by cases h),fun h=>absurd (fZ.2 (h.ok i f hf)) sw⟩⟩
   have sw:b3=true:=by simpa using hb
   refine aw (ah [0,8,9,10] rfl ?_);refine aA rfl (aF rfl rfl ⟨by omega,by omega⟩ (aa 1 rfl (au ?_)));exact⟨i+1,by omega,ar,rfl,by omega,fun k f9 h9 rp=>by by_cases e:k<i;exact hk k f9 e rp;(obtain rfl:k=i:=by omega);rw[hf]at rp;cases rp;exact fZ.1 sw⟩
  have hb:fs.length≤i:=by simpa using hb
  have fm:∀(k:Nat)(f:aJ),fs[k]? = some f→eV f:=fun k f h=>hk k f (by have:=(List.getElem?_eq_some_iff.1 h).1;omega) h;refine aU (ah [0] rfl ?_);refine ae (aa 1 rfl (aB rfl rfl (TD hv (by omega) (fun f hf=>by obtain⟨k,h9⟩:=List.getElem?_of_mem hf;have:=(fm k f h9).len;omega)) ?_));rintro _ H4 ⟨cM,A4,c4,rfl,zf⟩;refine aa 3 rfl (ab [2] ?_);refine az ⟨.inr rfl,_,.tmp rfl (.nil),?_⟩;exact⟨cM,_,rfl,⟨fun h=>⟨h1,fm,by have h9:((ct fs).length:Int)≤100:=(by simpa using h);omega⟩,fun h=>by have h9:=h.vars;simp;omega⟩⟩
theorem alv{H:Heap}{f:aJ}{A:Option Addr}{c g:Nat}{v:Int}(hc:cell H ⟨g,0,none⟩=some (.int .i64 v))(hf:aN gX 2 H (.slice A f.ts.length c) f.ts)(hl:f.ts.length≤1000000):
 Fn Tryz.prog 77 #[.agg #[.int .i64 f.c,.slice A f.ts.length c],.pointer (some ⟨g,0,none⟩)] H (j8 H (.int .i64 (f.bU v))):=by
 refine aY (args:=[_,_]) Tryz.func77 rfl rfl Tryz.ntmps77 rfl rfl fun w0=> ?_;refine ah [0,1] rfl ?_;refine ae (bZ rfl rfl (aa 1 rfl (ab [1,2] ?_)));refine ae (aa 1 rfl (aR ag rfl rfl rfl (hc) (aB rfl rfl (TC hf hl) ?_)));rintro _ _ ⟨e2,rfl⟩;rw[e2];refine aa 1 rfl (ab [3] ?_);refine az ⟨.inr rfl,_,.tmp rfl (.nil),?_⟩;exact⟨rfl,rfl⟩
theorem alw{H:Heap}{f:aJ}{A:Option Addr}{c:Nat}:
 Fn Tryz.prog 79 #[.agg #[.int .i64 f.c,.slice A f.ts.length c]] H (j8 H (.int .i64 f.c)):=by
 refine aY (args:=[_]) Tryz.func79 rfl rfl Tryz.ntmps79 rfl rfl fun w0=> ?_;refine ah [0] rfl ?_;refine ae (bZ rfl rfl (aa 1 rfl (ab [1] ?_)));refine ae (aa 3 rfl (ab [2] ?_));refine az ⟨.inr rfl,_,.tmp rfl (.nil),?_⟩;exact⟨rfl,rfl⟩
end Go.aq
namespace Go.aq
open Go.Proofs Num
theorem alx{H:Heap}{v v2:Value}{q q2:Rat}{N:Nat}(hv:cW H v q N)(dT:cW H v2 q2 N)(hN:(N:Int)≤1099511627776):
 Fn Tryz.prog 118 #[v,v2] H (j7 H (q-q2)):=by
 obtain⟨bf,bu,bw,nL,nM,rfl,_⟩:=id hv
 obtain⟨cf,cu,cw,yP,yQ,rfl,_⟩:=id dT;refine aY (args:=[_,_]) Tryz.func118 rfl rfl Tryz.ntmps118 rfl rfl fun w0=> ?_;refine ah [0,1] rfl ?_;refine ae (bZ rfl rfl (bZ rfl rfl (bm cj rfl (ab [2,3,4] ?_))));refine ae (aa 1 rfl (aB rfl rfl (tL dT (by omega)) ?_));rintro v2 H2 ⟨ga,f2,n2,d2,yR,j6,rfl,cA,kD⟩;obtain⟨Dr,Ds,rfl,lX,ly⟩:=id yR;obtain⟨AW,AX,rfl,Dt,Du⟩:=id lX;obtain⟨AY,AZ,rfl,Dv,Dw⟩:=id ly;have aly:r6 H2 (.agg #[.bool (!f2),.slice AW (al n2).length AX,.slice AY (al d2).length AZ]) (!f2) n2 d2:=⟨_,_,rfl,lX,ly⟩;refine bm j5 rfl ?_;obtain⟨ti,aj,ak⟩:=jc;refine aI (.inl ⟨rfl,rfl⟩) rfl rfl rfl aj ak rfl rfl rfl (ab [2,4,5] ?_);refine ae (vr 4 ?_);obtain⟨ti,aj,ak⟩:=FO;refine aI (.inr rfl) rfl rfl rfl aj ak rfl rfl rfl (ab [2,4,5] ?_);refine bN .bK [0,2,1,3,4,5] follows (by kernel_rfl) ?_;refine aa 2 rfl (aW rfl rfl (tL (hv.le ga) (by omega)) (fun _ _ h=>h.le) ?_);rintro v1 H1 ⟨fF,f1,n1,d1,m6,ff,rfl,bg,r8⟩;obtain⟨wL,wM,rfl,gP,ib⟩:=id m6;obtain⟨wN,wO,rfl,wP,wQ⟩:=id gP;obtain⟨wR,wS,rfl,wT,wU⟩:=id ib;refine aW rfl rfl (VH (K:=N+1) m6 (aly.le fF) ff j6 bg r8 cA kD (by omega)) (fun _ _ h=>h.le) ?_
 rintro v3 H3 ⟨iA,f3,n3,d3,Gb,KB,KC,dK,OK⟩;obtain⟨un3,ud3,rfl,afo,afp⟩:=id Gb;rw[←OH,←Rat.sub_eq_add_neg]at KC;refine aW rfl rfl (yO Gb KB (by omega) (by omega)) (fun _ _ h=>h.le) ?_;rintro w4 G4 ⟨kZ,cn⟩;rw[KC]at cn;obtain⟨u4,x4,rfl,wV,k8⟩:=id cn;obtain⟨KD,KE,rfl,KF,KG⟩:=id wV;obtain⟨Dx,Dy,rfl,Dz,DA⟩:=id k8;obtain⟨ti,aj,ak⟩:=aX;refine aI (.inl ⟨rfl,rfl⟩) rfl rfl rfl aj ak rfl rfl rfl (ab [4] ?_);obtain⟨b8,aP,aQ⟩:=aX;refine az ⟨.inr rfl,_,.agg rfl Tryz.underlying38 aP aQ (.nil),?_⟩;exact⟨((ga.trans fF).trans iA).trans kZ,cn⟩
end Go.aq
namespace Go.aq
open Go.Proofs Num Lp
theorem abE{H:Heap}{v pv part:Value}{fs:List aJ}{ys:List Rat}{goal:aJ}{A0:Option Addr}{c0 N:Nat}{g:aJ→Int}(hv:kn H v fs)(eH:aN gX 2 H (.slice A0 goal.ts.length c0) goal.ts)(hp:aN (dA N) 3 H pv ys)(TF:aaf H part g)(hlen:ys.length=fs.length)(hn:fs.length≤1000)(hN:N≤400000000)(bO:∀(i:Nat)(f:aJ),fs[i]? = some f→eV f)(dV:eV goal)(hg:∀f,eV f→-1048576≤g f∧g f≤1048576):
 Fn Tryz.prog 78 #[v,.agg #[.int .i64 goal.c,.slice A0 goal.ts.length c0],pv,part] H (Iv H (((g goal:Int):Rat)-ajn fs (fn ys) (fun f=>((g f:Int):Rat)))):=by
 obtain⟨A,c,xs,rfl,hc,hr,hx⟩:=id hv
 have C0:=hp.B7
 obtain⟨Ap,cp,xp,rfl,rB,gT,ld⟩:=id hp
 obtain⟨iO,cap,rfl,Nr⟩:=TF
 have hG:=hg goal dV
 have hgi:∀i,i<fs.length→-1048576≤g (nth fs i)∧g (nth fs i)≤1048576:=fun i hi=>hg _ (bO i _ (Iz hi))
 have aod:=dV.len
 have cP:∀k,k≤fs.length→aM (((g goal:Int):Rat)-aZ k (fun i=>fn ys i*((g (nth fs i):Int):Rat)))≤1000000000000:=fun k hk=>RL (rb hG) (ID C0 hlen hn hN hgi hk);refine aY (args:=[_,_,_,_]) Tryz.func78 rfl rfl Tryz.ntmps78 rfl rfl fun w0=> ?_;refine ah [0,1,2,3] rfl ?_;refine ae (bZ rfl rfl (bm cj rfl (ab [0,2,3,5,8] ?_)));refine ae (aa 2 rfl (CX (cap:=cap) (args:=[.agg #[.int .i64 goal.c,.slice A0 goal.ts.length c0]]) rfl rfl (Nr H (.refl _) goal A0 c0 eH (by omega)) (.inl rfl) ?_));rintro _ _ ⟨e1,rfl⟩;rw[e1];refine aB rfl rfl ((Dl (n:=g goal) (by omega) (by omega)).rc) ?_;rintro _ H1 ⟨bg,t1,rfl,bX⟩;refine bm cj rfl ?_;obtain⟨ti,aj,ak⟩:=aX;refine aI (.inl ⟨rfl,rfl⟩) rfl rfl rfl aj ak rfl rfl rfl (ab [0,2,3,8,9] ?_);refine ao (ae (aa 3 rfl (ab [2,3,8,9,17,18,19] ?_)));refine aE (fX (fun(i:Nat)(t:RC)=>fs.length-i) (fun(i:Nat)(t:RC)=>put (put (put (put (put (put (put (emp) 2 (.val (.slice Ap ys.length cp))) 3 (.val (.func (.func iO) #[] cap.toArray))) 8 (.box [.bool false,.slice none 0 0,.slice none 0 0])) 9 (.box [.bool t.f,.slice t.A1 t.m1 t.c1,.slice t.A2 t.m2 t.c2])) 17 (.val (.slice A fs.length c))) 18 (.val (.int .i64 (fs.length:Int)))) 19 (.val (.int .i64 (i:Int)))) (fun(i:Nat)(t:RC) H'=>Heap.le H H'∧bH H' t.v (((g goal:Int):Rat)-aZ i (fun i=>fn ys i*((g (nth fs i):Int):Rat)))∧i≤fs.length) 0 t1 (⟨bg,by rw[DD,show ∀q:Rat,q-0=q from fun q=>by grind];exact bX,Nat.zero_le _⟩) ar ?_)
 rintro i t H2 ⟨cA,bS,hi⟩;refine ae (aa 1 rfl (ab [2,3,8,9,17,18,19,20] ?_));refine ao (aD rfl (fun hb=> ?_) (fun hb=> ?_))
 ·
  have aO:i<fs.length:=by simpa using hb
  obtain⟨f,hf⟩:∃f,fs[i]? = some f:=⟨_,List.getElem?_eq_getElem aO⟩;obtain⟨B,cb,nE,kt⟩:=uO hx hf;have cE:=bO i f hf;have TH:=cE.len;have Ns:=hg f cE;have yi:=ZS hf;obtain⟨q,fT⟩:∃q,ys[i]? = some q:=⟨_,List.getElem?_eq_getElem (by omega)⟩;obtain⟨g5,B1,k1,e1,B2,k2,e2,I5,rz,wh⟩:=aN.s7 ld fT;have iU:=m8 fT;have mY:=cP i hi;have qK:=sk q ((g f:Int):Rat);have EU:=rz.size;have sQ:=rb Ns;refine aw (ah [2,3,8,9,17,18,19] rfl ?_);refine ao (aE (ae (aa 1 rfl (bY ag rfl rfl rfl rfl (hr.le cA) rfl (by decide) (kt) (by omega) (by omega) fun _=>(bm im rfl (vr 1 ?_))))));obtain⟨ti,aj,ak⟩:=AJ;refine aI (.inl ⟨rfl,rfl⟩) rfl rfl rfl aj ak rfl rfl rfl (ab [2,3,8,9,10,11,17,18,19] ?_);refine ae (aa 2 rfl (CX (cap:=cap) (args:=[.agg #[.int .i64 f.c,.slice B f.ts.length cb]]) rfl rfl (Nr H2 cA f B cb (nE.le fc cA) (by omega)) (.inl rfl) ?_));rintro _ _ ⟨e3,rfl⟩;rw[e3];refine aa 1 rfl (ab [2,3,8,9,10,12,17,18,19] ?_);refine ae (aa 2 rfl (ab [2,3,8,9,10,12,17,18,19,28] ?_));refine aD rfl (fun hb=> ?_) (fun hb=> ?_)
  ·
   skip
   refine eK .bK [0,1,2,3,4,5,6,7,8,9] follows (by kernel_rfl) ?_;refine aa 3 rfl (bY (vs:=[.bool g5,.slice B1 k1 e1,.slice B2 k2 e2]) ag rfl rfl rfl rfl (gT.le cA) rfl (by decide) wh (by omega) (by omega) fun _=>(aa 1 rfl (aW rfl rfl ((Dl (n:=g f) (by omega) (by omega)).rc) (fun _ _ h=>by first | exact h.le | exact h.1) ?_)));rintro _ H3 ⟨dK,t3,rfl,iD⟩;refine aW rfl rfl ((OT (N:=N+20) ((((rz.le cA).le dK)).mono (by omega)) ((bH.raw iD).mono (by omega)) (by omega)).rc) (fun _ _ h=>by first | exact h.le | exact h.1) ?_;rintro _ H4 ⟨cM,t4,rfl,cn⟩;refine aW rfl rfl ((alx (N:=1000000000000) ((((bH.raw bS).mono mY).le dK).le cM) ((bH.raw cn).mono (by omega)) (by decide)).rc) (fun _ _ h=>by first | exact h.le | exact h.1) ?_;rintro _ H5 ⟨dR,t5,rfl,eI⟩;rw[←iU,←yi,show ∀a b c:Rat,a-b-c=a-(b+c)from fun a b c=>by grind,←gn i (fun i=>fn ys i*((g (nth fs i):Int):Rat))]at eI;obtain⟨ti,aj,ak⟩:=aX;refine aI (.inl ⟨rfl,rfl⟩) rfl rfl rfl aj ak rfl rfl rfl (au (ah [2,3,8,9,17,18,19] rfl ?_));refine aA rfl (aF rfl rfl ⟨by omega,by omega⟩ (aa 1 rfl (au ?_)));exact⟨i+1,t5,by omega,ar,cA.trans (dK.trans (cM.trans dR)),eI,by omega⟩
  ·
   have h0:g (nth fs i)=0:=by rw[yi];simpa using hb
   refine aw (ah [2,3,8,9,17,18,19] rfl ?_);refine aA rfl (aF rfl rfl ⟨by omega,by omega⟩ (aa 1 rfl (au ?_)));exact⟨i+1,t,by omega,ar,cA,by rw[gn,h0,show ((0:Int):Rat)=0 from rfl,Rat.mul_zero,show ∀q:Rat,q+0=q from fun q=>by grind];exact bS,by omega⟩
 ·
  have hb:fs.length≤i:=by simpa using hb
  obtain rfl:i=fs.length:=by omega
  refine aU (ah [8,9] rfl ?_);refine ae (vr 1 ?_);obtain⟨ti,aj,ak⟩:=aX;refine aI (.inl ⟨rfl,rfl⟩) rfl rfl rfl aj ak rfl rfl rfl (ab [8] ?_);obtain⟨b8,aP,aQ⟩:=aX;refine az ⟨.inr rfl,_,.agg rfl Tryz.underlying38 aP aQ (.nil),?_⟩;exact⟨cA,t,rfl,bS⟩
theorem TI{a b:Int}(h:(a != b)=false):a=b:=by simpa using h
theorem TJ{a b:Int}(h:(a != b)=true):¬a=b:=by simpa using h
structure tl(N:Nat)(H:Heap)(v pv:Value)(fs:List aJ)(ys:List Rat):Prop where
 fv:kn H v fs
 py:aN (dA N) 3 H pv ys
 Jn:N≤400000000
theorem tl.le{N:Nat}{H H':Heap}{v pv:Value}{fs:List aJ}{ys:List Rat}(h:tl N H v pv fs ys)(hl:Heap.le H H'):tl N H' v pv fs ys:=⟨h.fv.le gJ hl,h.py.le (pS N) hl,h.Jn⟩
theorem abF{a b:Rat}:eY (a-b)=0↔b=a:=by
 rw[ug];constructor <;> intro <;> grind
theorem abG{fs:List aJ}{g:aJ}{y:Nat→Rat}(h:∀(k:Nat)(x:Int),(ct (fs ++ [g]))[k]? = some x→comb fs y x=((g.bU x:Int):Rat))(x:Int):comb fs y x=((g.bU x:Int):Rat):=by
 by_cases hm:x∈ct (fs ++ [g])
 ·obtain⟨k,hk⟩:=List.getElem?_of_mem hm
  exact h k x hk
 ·rw[Mk fun h=>hm ?_,RE fun h=>hm (xN.2 ⟨g,by simp,h⟩)]
  ·rfl
  ·obtain⟨f,h4,h5⟩:=xN.1 h
   exact xN.2 ⟨f,by simp[h4],h5⟩
theorem abH{fs:List aJ}{g:aJ}(h:lj fs)(hg:eV g):(ct (fs ++ [g])).length≤4000:=by
 have h1:=ZZ (fs ++ [g])
 have h2:=Iy (k:=16) (fs:=fs ++ [g]) fun f hf=>by
  rcases List.mem_append.1 hf with hf | hf
  ·obtain⟨i,hi⟩:=List.getElem?_of_mem hf;exact(h.ok i f hi).len
  ·rw[List.mem_singleton.1 hf];exact hg.len
 have h3:=h.len
 have h4:(fs ++ [g]).length*16≤201*16:=Nat.mul_le_mul_right _ (by rw[List.length_append,List.length_singleton];omega)
 omega
theorem TK{fs:List aJ}{g:aJ}(h:lj fs)(hg:eV g):∀f,f∈fs ++ [g]→f.ts.length≤1000:=fun f hf=>by
 rcases List.mem_append.1 hf with hf | hf
 ·obtain⟨i,hi⟩:=List.getElem?_of_mem hf;have:=(h.ok i f hi).len;omega
 ·rw[List.mem_singleton.1 hf];have:=hg.len;omega
def alz(fs:List aJ)(g:aJ)(y:Nat→Rat)(H:Heap)(v:Value)(H':Heap):Prop:=Heap.le H H'∧∃(t:RC)(b:Bool),v = .tuple #[t.v,.bool b]∧(b=true↔∀x,comb fs y x=((g.bU x:Int):Rat))∧∃q,cW H' t.v q 1000000000000∧(b=true→q=((g.c:Int):Rat)-gI fs y)
theorem abI{H:Heap}{v pv:Value}{fs:List aJ}{ys:List Rat}{goal:aJ}{A0:Option Addr}{c0 N:Nat}(ha:tl N H v pv fs ys)(eH:aN gX 2 H (.slice A0 goal.ts.length c0) goal.ts)(hlen:ys.length=fs.length)(cE:lj fs)(dV:eV goal):
 Fn Tryz.prog 43 #[v,.agg #[.int .i64 goal.c,.slice A0 goal.ts.length c0],pv] H (alz fs goal (fn ys) H):=by
 have hv:=ha.fv
 have hp:=ha.py
 have hN:=ha.Jn
 have hn:=cE.len
 have il:=abH cE dV
 obtain⟨A,c,xs,rfl,hc,hr,hx⟩:=id hv
 obtain⟨Ap,cp,xp,rfl,rB,gT,ld⟩:=id hp;refine aY (args:=[_,_,_]) Tryz.func43 rfl rfl Tryz.ntmps43 rfl rfl fun w0=> ?_;refine ah [0,1,2] rfl ?_;refine ae (bZ rfl rfl (bm cj rfl (aa 1 rfl (ab [0,2,4,6] ?_))));refine bN .bK [0,2,1,3,4,5] follows (by kernel_rfl) ?_;refine aa 2 rfl (aW rfl rfl (abD hv (by omega)) (fun _ _ h=>by first | exact h.le | exact h.1) ?_);rintro v1 H1 ⟨y1,TM⟩;obtain⟨W,cw,rfl⟩:=TM.form;refine cS Tryz.underlying22 im rfl rfl rfl rfl rfl rfl rfl ?_;intro gb a6;refine Cd gJ Ca Tryz.underlying22 im rfl rfl TM a6 (show o6 _ [_,_] goal from⟨A0,c0,rfl,eH.le fc TM.base⟩) rfl (by omega) (by omega) ?_;intro v4 H4 y4 nZ _;obtain⟨W4,cw4,rfl⟩:=nZ.form;have zf:=nZ.sl gJ;have cM:=nZ.le;refine aa 1 rfl (ab [0,2,4,6,8] ?_);refine ao (ae (aa 1 rfl (aB rfl rfl (TD zf (by rw[List.length_append,List.length_singleton];omega) (TK cE dV)) ?_)));rintro _ H5 ⟨dR,A5,c5,rfl,Jo⟩;obtain⟨_,_,x5,e5,l4,pM,nn⟩:=id Jo
 cases e5
 have ln:=cM.trans dR;refine aa 2 rfl (ab [0,2,4,6,18,19,20] ?_);refine aE (fI (fun(i:Nat)=>(ct (fs ++ [goal])).length-i) (fun(i:Nat)=>put (put (put (put (put (put (put (emp) 0 (.val (.slice A fs.length c))) 2 (.val (.slice Ap ys.length cp))) 4 (.box [.int .i64 goal.c,.slice A0 goal.ts.length c0])) 6 (.box [.bool false,.slice none 0 0,.slice none 0 0])) 18 (.val (.slice A5 (ct (fs ++ [goal])).length c5))) 19 (.val (.int .i64 ((ct (fs ++ [goal])).length:Int)))) 20 (.val (.int .i64 (i:Int)))) (fun(i:Nat) H'=>Heap.le H5 H'∧i≤(ct (fs ++ [goal])).length∧∀(k:Nat)(x:Int),k<i→(ct (fs ++ [goal]))[k]? = some x→comb fs (fn ys) x=((goal.bU x:Int):Rat)) 0 (⟨.refl _,Nat.zero_le _,fun k x h=>by omega⟩) ar ?_);rintro i H6 ⟨fM,hi,hk⟩;refine ae (aa 1 rfl (ab [0,2,4,6,18,19,20,21] ?_));refine ao (aD rfl (fun hb=> ?_) (fun hb=> ?_))
 ·
  have aO:i<(ct (fs ++ [goal])).length:=by simpa using hb
  obtain⟨x,zZ⟩:∃x,(ct (fs ++ [goal]))[i]? = some x:=⟨_,List.getElem?_eq_getElem aO⟩;refine aw (ah [0,2,4,6,18,19,20] rfl ?_);refine ao (aE (ae (aS ag rfl rfl rfl rfl rfl (pM.le fM) (by rw[Int.toNat_natCast];exact Cc nn zZ) (by omega) (by omega) fun _=> ?_)));refine JY fE rfl ?_;intro gx lB;obtain⟨ti,aj,ak⟩:=vq;refine j9 (g:=gx) (o:=0) (.inl rfl) rfl (bC _ _ _) rfl (by decide) aj ak rfl rfl rfl rfl ?_;obtain⟨jt,mP⟩:=ajC (e:=3) 0 x lB;refine ab [0,2,4,6,10,18,19,20] ?_
  generalize ins (ins H6 gx (whole [.int .i64 0] 3)) gx {whole [.int .i64 0] 3 with xs:=aL (whole [.int .i64 0] 3).xs 0 [.int .i64 x]}=H7 at jt mP⊢
  have qf:=ln.trans (fM.trans jt);refine ae (Li (cap:=[.pointer (some ⟨gx,0,none⟩)]) rfl (aa 1 rfl (ab [0,2,4,6,11,18,19,20] ?_)));refine ae (aa 4 rfl (aB rfl rfl (abE (g:=fun f=>f.bU x) (hv.le gJ qf) (eH.le fc qf) (hp.le (pS N) qf) ⟨77,[.pointer (some ⟨gx,0,none⟩)],rfl,fun H9 ea f A c hf jI=>alv (cF ea mP) hf jI⟩ hlen (by omega) hN cE.ok dV (fun f h=>h.o0 x)) ?_));rintro _ H8 ⟨gA,t8,rfl,eJ⟩;have cP:∀k,k≤fs.length→aM (((goal.bU x:Int):Rat)-aZ k (fun i=>fn ys i*(((nth fs i).bU x:Int):Rat)))≤1000000000000:=fun k hk=>RL (rb (dV.o0 x)) (ID (g:=fun f=>f.bU x) hp.B7 hlen (by omega) hN (fun i hi=>(cE.ok i _ (Iz hi)).o0 x) hk);refine aB rfl rfl (Ga (N:=1000000000000) ((bH.raw eJ).mono (cP _ (Nat.le_refl _))) (by decide)) ?_;rintro _ H9 ⟨ea,rfl⟩;refine aa 1 rfl (ab [0,2,4,6,18,19,20,31] ?_);refine aD rfl (fun hb=> ?_) (fun hb=> ?_)
  ·
   have h0:¬eY (((goal.bU x:Int):Rat)-comb fs (fn ys) x)=0:=TJ hb;refine ae (di ag rfl cj rfl rfl ?_);obtain⟨ti,aj,ak⟩:=aX;refine aI (.inl ⟨rfl,rfl⟩) rfl rfl rfl aj ak rfl rfl rfl (aa 1 rfl (ab [6,7] ?_));obtain⟨b8,aP,aQ⟩:=aX;refine az ⟨.inr rfl,_,.agg rfl Tryz.underlying38 aP aQ (.tmp rfl (.nil)),?_⟩;exact⟨qf.trans (gA.trans ea),⟨false,none,0,0,none,0,0⟩,false,rfl,⟨(fun h=>by cases h),fun h=>absurd (abF.2 (h x)) h0⟩,0,Mf,fun h=>by cases h⟩
  ·
   have h0:eY (((goal.bU x:Int):Rat)-comb fs (fn ys) x)=0:=TI hb;refine aw (ah [0,2,4,6,18,19,20] rfl ?_);refine aA rfl (aF rfl rfl ⟨by omega,by omega⟩ (aa 1 rfl (au ?_)));exact⟨i+1,by omega,ar,fM.trans (jt.trans (gA.trans ea)),by omega,fun k z h9 qe=>by by_cases e:k<i;exact hk k z e qe;(obtain rfl:k=i:=by omega);rw[zZ]at qe;cases qe;exact abF.1 h0⟩
 ·
  have hb:(ct (fs ++ [goal])).length≤i:=by simpa using hb
  have fm:=abG fun k x hkx=>hk k x (by have:=(List.getElem?_eq_some_iff.1 hkx).1;omega) hkx;have pg:=ln.trans fM;have cP:∀k,k≤fs.length→aM (((goal.c:Int):Rat)-aZ k (fun i=>fn ys i*(((nth fs i).c:Int):Rat)))≤1000000000000:=fun k hk=>RL (rb dV.const) (ID (g:=fun f=>f.c) hp.B7 hlen (by omega) hN (fun i hi=>(cE.ok i _ (Iz hi)).const) hk);refine aU (ah [0,2,4,6] rfl ?_);refine ae (aa 3 rfl (aB rfl rfl (abE (g:=fun f=>f.c) (hv.le gJ pg) (eH.le fc pg) (hp.le (pS N) pg) ⟨79,[],rfl,fun H9 ea f A c hf jI=>alw⟩ hlen (by omega) hN cE.ok dV (fun f h=>h.const)) ?_));rintro _ H8 ⟨gA,t8,rfl,eJ⟩;obtain⟨ti,aj,ak⟩:=aX;refine aI (.inl ⟨rfl,rfl⟩) rfl rfl rfl aj ak rfl rfl rfl (aa 1 rfl (ab [6,7] ?_));obtain⟨b8,aP,aQ⟩:=aX;refine az ⟨.inr rfl,_,.agg rfl Tryz.underlying38 aP aQ (.tmp rfl (.nil)),?_⟩;exact⟨pg.trans gA,t8,true,rfl,⟨fun _=>fm,fun _=>rfl⟩,_,(bH.raw eJ).mono (cP _ (Nat.le_refl _)),fun _=>rfl⟩
theorem abJ{H:Heap}{v pv:Value}{fs:List aJ}{ys:List Rat}{N:Nat}(ha:tl N H v pv fs ys)(hn:fs.length≤1000):
 Fn Tryz.prog 42 #[v,pv] H (fun v' H'=>Heap.le H H'∧∃b,v' = .bool b∧(b=true↔ys.length=fs.length∧uN fs.length (fn ys))):=by
 have hN:=ha.Jn
 obtain⟨A,c,xs,rfl,hc,hr,hx⟩:=id ha.fv
 obtain⟨Ap,cp,xp,rfl,rB,gT,ld⟩:=id ha.py;refine aY (args:=[_,_]) Tryz.func42 rfl rfl Tryz.ntmps42 rfl rfl fun w0=> ?_;refine ah [0,1] rfl ?_;refine ae (aa 1 rfl (ab [0,1] ?_));refine ao (ae (aa 5 rfl (ab [1,11] ?_)));refine aD rfl (fun hb=> ?_) (fun hb=> ?_)
 ·
  have h1:¬fs.length=ys.length:=by simpa [Int.natCast_inj]using hb
  refine ae (aa 1 rfl (ab [4] ?_));refine az ⟨.inr rfl,_,.tmp rfl (.nil),?_⟩;exact⟨.refl _,false,rfl,⟨(fun h=>by cases h),fun h=>absurd h.1.symm h1⟩⟩
 ·
  have h1:fs.length=ys.length:=by simpa [Int.natCast_inj]using hb
  refine aw (ah [1] rfl ?_);refine ao (ae (aa 3 rfl (ab [12,13,14] ?_)));refine aE (fI (fun(i:Nat)=>ys.length-i) (fun(i:Nat)=>put (put (put (emp) 12 (.val (.slice Ap ys.length cp))) 13 (.val (.int .i64 (ys.length:Int)))) 14 (.val (.int .i64 (i:Int)))) (fun(i:Nat) H'=>Heap.le H H'∧i≤ys.length∧∀k,k<i→0≤fn ys k) 0 (⟨.refl _,Nat.zero_le _,fun k h=>by omega⟩) ar ?_);rintro i H1 ⟨bg,hi,hk⟩;refine ae (aa 1 rfl (ab [12,13,14,15] ?_));refine ao (aD rfl (fun hb=> ?_) (fun hb=> ?_))
  ·
   have aO:i<ys.length:=by simpa using hb
   obtain⟨q,fT⟩:∃q,ys[i]? = some q:=⟨_,List.getElem?_eq_getElem aO⟩;obtain⟨g5,B1,k1,e1,B2,k2,e2,I5,rz,wh⟩:=aN.s7 ld fT;have iU:=m8 fT;refine aw (ah [12,13,14] rfl ?_);refine ao (aE (ae (bY (vs:=[.bool g5,.slice B1 k1 e1,.slice B2 k2 e2]) ag rfl rfl rfl rfl (gT.le bg) rfl (by decide) wh (by omega) (by omega) fun _=>(bm cj rfl ?_))));obtain⟨ti,aj,ak⟩:=aX;refine aI (.inl ⟨rfl,rfl⟩) rfl rfl rfl aj ak rfl rfl rfl (ab [6,12,13,14] ?_);refine ae (aa 1 rfl (aB rfl rfl (Ga (N:=N) (rz.le bg) (by omega)) ?_));rintro _ H2 ⟨cA,rfl⟩;refine aa 1 rfl (ab [12,13,14,20] ?_);refine aD rfl (fun hb=> ?_) (fun hb=> ?_)
   ·
    have h2:eY q<0:=by simpa using hb
    refine ae (aa 1 rfl (ab [4] ?_));refine az ⟨.inr rfl,_,.tmp rfl (.nil),?_⟩;exact⟨bg.trans cA,false,rfl,⟨(fun h=>by cases h),fun h=>absurd (ue.2 (iU▸h.2 i (by omega))) (by omega)⟩⟩
   have h2:0≤eY q:=by simpa using hb
   refine aw (ah [12,13,14] rfl ?_);refine aA rfl (aF rfl rfl ⟨by omega,by omega⟩ (aa 1 rfl (au ?_)));exact⟨i+1,by omega,ar,bg.trans cA,by omega,fun k h9=>by by_cases e:k<i;exact hk k e;(obtain rfl:k=i:=by omega);rw[iU];exact ue.1 (by omega)⟩
  have hb:ys.length≤i:=by simpa using hb
  refine aU (ah [] rfl ?_);refine ae (aa 1 rfl (ab [4] ?_));refine az ⟨.inr rfl,_,.tmp rfl (.nil),?_⟩;exact⟨bg,true,rfl,⟨fun _=>⟨h1.symm,fun k h=>hk k (by omega)⟩,fun _=>rfl⟩⟩
theorem alA{q:Rat}:0<eY q↔0<q:=by unfold eY;split;(constructor <;> intro <;> grind);split;(constructor <;> intro <;> grind);(constructor <;> intro <;> grind)
theorem alB{fs:List aJ}{ys:List Rat}{q:Rat}(hp:uN fs.length (fn ys))(hc:∀x,comb fs (fn ys) x=((jX.bU x:Int):Rat))(hq:q=((jX.c:Int):Rat)-gI fs (fn ys)):0<eY q↔Ref fs (fn ys):=by
 have h0:((jX.c:Int):Rat)=0:=rfl
 rw[alA,hq,h0]
 exact⟨fun h=>⟨hp,fun v=>hc v,by grind⟩,fun h=>by have:=h.const;grind⟩
def TN(fs:List aJ)(g:aJ)(ys:List Rat):Prop:=lj fs∧eV g∧(ys.length=fs.length∧uN fs.length (fn ys))∧(Lp.Ent fs g (fn ys)∨Ref fs (fn ys))
def TO(fs:List aJ)(ys:List Rat):Prop:=lj fs∧(ys.length=fs.length∧uN fs.length (fn ys))∧Ref fs (fn ys)
theorem TP{H:Heap}{v pv:Value}{fs:List aJ}{ys:List Rat}{N:Nat}(ha:tl N H v pv fs ys)(hlen:ys.length=fs.length)(jr:uN fs.length (fn ys))(cE:lj fs):
 Fn Tryz.prog 45 #[v,pv] H (fun v' H'=>Heap.le H H'∧∃b,v' = .bool b∧(b=true↔Ref fs (fn ys))):=by
 obtain⟨A,c,xs,rfl,hc,hr,hx⟩:=id ha.fv
 obtain⟨Ap,cp,xp,rfl,rB,gT,ld⟩:=id ha.py;refine aY (args:=[_,_]) Tryz.func45 rfl rfl Tryz.ntmps45 rfl rfl fun w0=> ?_;refine ah [0,1] rfl ?_;refine ae (aa 1 rfl (ab [0,1] ?_));refine ae (aa 1 rfl (di ag rfl im rfl rfl (aa 1 rfl (aB rfl rfl (abI (goal:=jX) (A0:=none) (c0:=0) ha aN.nil hlen cE Mj) ?_))));rintro _ H1 ⟨bg,t1,b1,rfl,dU,q1,alC,bX⟩;refine aa 3 rfl (bm cj rfl ?_);obtain⟨ti,aj,ak⟩:=aX;refine aI (.inl ⟨rfl,rfl⟩) rfl rfl rfl aj ak rfl rfl rfl (aa 1 rfl (ab [5,6] ?_))
 cases b1
 ·
  skip
  refine ae (aa 7 rfl (ab [4] ?_));refine az ⟨.inr rfl,_,.tmp rfl (.nil),?_⟩;exact⟨bg,false,rfl,⟨(fun h=>by cases h),fun h=>(by have h9:=dU.2 (fun x=>(h.bU x).trans rfl);cases h9)⟩⟩
 ·
  skip
  refine ae (aa 3 rfl (aB rfl rfl (Ga (N:=1000000000000) alC (by decide)) ?_));rintro _ H2 ⟨cA,rfl⟩;refine aa 3 rfl (ab [4] ?_);refine az ⟨.inr rfl,_,.tmp rfl (.nil),?_⟩;exact⟨bg.trans cA,_,rfl,by rw[decide_eq_true_iff];exact alB jr (dU.1 rfl) (bX rfl)⟩
theorem alD{H:Heap}{v pv:Value}{fs:List aJ}{ys:List Rat}{goal:aJ}{A0:Option Addr}{c0 N:Nat}(ha:tl N H v pv fs ys)(eH:aN gX 2 H (.slice A0 goal.ts.length c0) goal.ts):
 Fn Tryz.prog 16 #[v,.agg #[.int .i64 goal.c,.slice A0 goal.ts.length c0],pv] H (fun v' H'=>Heap.le H H'∧∃b,v' = .bool b∧(b=true↔TN fs goal ys)):=by
 obtain⟨A,c,xs,rfl,hc,hr,hx⟩:=id ha.fv
 obtain⟨Ap,cp,xp,rfl,rB,gT,ld⟩:=id ha.py;refine aY (args:=[_,_,_]) Tryz.func16 rfl rfl Tryz.ntmps16 rfl rfl fun w0=> ?_;refine ah [0,1,2] rfl ?_;refine ae (bZ rfl rfl (aa 1 rfl (ab [0,2,4] ?_)));refine ao (ae (aa 1 rfl (aB rfl rfl (TE ha.fv) ?_)));rintro _ H1 ⟨bg,b1,rfl,dU⟩
 cases b1
 ·
  skip
  refine aa 12 rfl (ab [0,2,4,22] ?_);refine cI rfl (ae (aa 1 rfl (ab [6] ?_)));refine az ⟨.inr rfl,_,.tmp rfl (.nil),?_⟩;exact⟨bg,false,rfl,⟨(fun h=>by cases h),fun h=>(by have h9:=dU.2 h.1;cases h9)⟩⟩
 ·
  skip
  refine aa 3 rfl (aB rfl rfl (TA (eH.le fc bg)) ?_);rintro _ H2 ⟨e2,b2,rfl,dg⟩;rw[e2]
  cases b2
  ·
   skip
   refine aa 8 rfl (ab [0,2,4,22] ?_);refine cI rfl (ae (aa 1 rfl (ab [6] ?_)));refine az ⟨.inr rfl,_,.tmp rfl (.nil),?_⟩;exact⟨bg,false,rfl,⟨(fun h=>by cases h),fun h=>(by have h9:=dg.2 h.2.1;cases h9)⟩⟩
  skip
  refine aa 5 rfl (aB rfl rfl (abJ (ha.le bg) (by have:=(dU.1 rfl).len;omega)) ?_);rintro _ H3 ⟨dK,b3,rfl,fZ⟩
  cases b3
  ·
   skip
   refine aa 2 rfl (ab [0,2,4,22] ?_);refine cI rfl (ae (aa 1 rfl (ab [6] ?_)));refine az ⟨.inr rfl,_,.tmp rfl (.nil),?_⟩;exact⟨bg.trans dK,false,rfl,⟨(fun h=>by cases h),fun h=>(by have h9:=fZ.2 h.2.2.1;cases h9)⟩⟩
  have cE:=dU.1 rfl;have dV:=dg.1 rfl;obtain⟨hlen,jr⟩:=fZ.1 rfl;have kP:=bg.trans dK;refine aa 2 rfl (ab [0,2,4,22] ?_);refine dd rfl (aw (ah [0,2,4] rfl ?_));refine ae (aa 3 rfl (aB rfl rfl (abI (ha.le kP) (eH.le fc kP) hlen cE dV) ?_));rintro _ H4 ⟨cM,t4,b4,rfl,xF,q4,TQ,cn⟩;have jx:=kP.trans cM;refine aa 3 rfl (bm cj rfl ?_);obtain⟨ti,aj,ak⟩:=aX;refine aI (.inl ⟨rfl,rfl⟩) rfl rfl rfl aj ak rfl rfl rfl (aa 1 rfl (ab [0,2,7,8] ?_))
  cases b4
  ·
   skip
   refine ae (aa 9 rfl (aB rfl rfl (TP (ha.le jx) hlen jr cE) ?_));rintro _ H6 ⟨fM,b6,rfl,ni⟩;refine aa 2 rfl (ab [6] ?_);refine az ⟨.inr rfl,_,.tmp rfl (.nil),?_⟩;exact⟨jx.trans fM,_,rfl,ni.trans ⟨fun h=>⟨cE,dV,⟨hlen,jr⟩,.inr h⟩,fun h=>h.2.2.2.elim (fun h=>(by have h9:=xF.2 h.bU;cases h9)) id⟩⟩
  skip
  refine ae (aa 3 rfl (aB rfl rfl (Ga (N:=1000000000000) TQ (by decide)) ?_));rintro _ H5 ⟨dR,rfl⟩;have ln:=jx.trans dR
  by_cases hs:0≤eY q4
  ·
   skip
   refine aG true rfl rfl (lT hs) (aa 7 rfl (ab [6] ?_));refine az ⟨.inr rfl,_,.tmp rfl (.nil),?_⟩;exact⟨ln,true,rfl,⟨fun _=>⟨cE,dV,⟨hlen,jr⟩,.inl ⟨jr,xF.1 rfl,by have h9:=ue.1 hs;rw[cn rfl]at h9;grind⟩⟩,fun _=>rfl⟩⟩
  skip
  refine aG false rfl rfl (pE (by omega)) (aa 4 rfl (aB rfl rfl (TP (ha.le ln) hlen jr cE) ?_));rintro _ H6 ⟨fM,b6,rfl,ni⟩;refine aa 2 rfl (ab [6] ?_);refine az ⟨.inr rfl,_,.tmp rfl (.nil),?_⟩;exact⟨ln.trans fM,_,rfl,ni.trans ⟨fun h=>⟨cE,dV,⟨hlen,jr⟩,.inr h⟩,fun h=>h.2.2.2.elim (fun h=>absurd (ue.2 (by rw[cn rfl];have h9:=h.const;grind)) hs) id⟩⟩
theorem alE{H:Heap}{v pv:Value}{fs:List aJ}{ys:List Rat}{N:Nat}(ha:tl N H v pv fs ys):
 Fn Tryz.prog 17 #[v,pv] H (fun v' H'=>Heap.le H H'∧∃b,v' = .bool b∧(b=true↔TO fs ys)):=by
 obtain⟨A,c,xs,rfl,hc,hr,hx⟩:=id ha.fv
 obtain⟨Ap,cp,xp,rfl,rB,gT,ld⟩:=id ha.py;refine aY (args:=[_,_]) Tryz.func17 rfl rfl Tryz.ntmps17 rfl rfl fun w0=> ?_;refine ah [0,1] rfl ?_;refine ae (aa 1 rfl (ab [0,1] ?_));refine ae (aa 1 rfl (aB rfl rfl (TE ha.fv) ?_));rintro _ H1 ⟨bg,b1,rfl,dU⟩
 cases b1
 ·
  skip
  refine aa 11 rfl (ab [4] ?_);refine az ⟨.inr rfl,_,.tmp rfl (.nil),?_⟩;exact⟨bg,false,rfl,⟨(fun h=>by cases h),fun h=>(by have h9:=dU.2 h.1;cases h9)⟩⟩
 ·
  skip
  refine aa 3 rfl (aB rfl rfl (abJ (ha.le bg) (by have:=(dU.1 rfl).len;omega)) ?_);rintro _ H3 ⟨dK,b3,rfl,fZ⟩
  cases b3
  ·
   skip
   refine aa 7 rfl (ab [4] ?_);refine az ⟨.inr rfl,_,.tmp rfl (.nil),?_⟩;exact⟨bg.trans dK,false,rfl,⟨(fun h=>by cases h),fun h=>(by have h9:=fZ.2 h.2.1;cases h9)⟩⟩
  skip
  refine aa 4 rfl (aB rfl rfl (TP (ha.le (bg.trans dK)) (fZ.1 rfl).1 (fZ.1 rfl).2 (dU.1 rfl)) ?_);rintro _ H6 ⟨fM,b6,rfl,ni⟩;refine aa 2 rfl (ab [4] ?_);refine az ⟨.inr rfl,_,.tmp rfl (.nil),?_⟩;exact⟨(bg.trans dK).trans fM,_,rfl,ni.trans ⟨fun h=>⟨dU.1 rfl,fZ.1 rfl,h⟩,fun h=>h.2.2⟩⟩
end Go.aq
namespace Lp
end Lp
namespace Go.aq
open Go.Proofs Num Lp
end Go.aq
namespace Go.aq
open Go.Proofs Num Lp
end Go.aq
namespace Go.aq
open Go.Proofs Num Lp
end Go.aq
namespace Go.aq
open Go.Proofs Num Lp
abbrev KX:Nat:=200000000
def alF(K:Nat)(H:Heap)(s:Value)(S:xg):Prop:=∃f A1 m1 c1 A2 m2 c2 Ax cx Ad cd Ar cr,s = .agg #[.int .i64 S.status,.bool f,.slice A1 m1 c1,.slice A2 m2 c2,.slice Ax S.x.length cx,.slice Ad S.sy.length cd,.slice Ar S.oR.length cr]∧cW H (.agg #[.bool f,.slice A1 m1 c1,.slice A2 m2 c2]) S.value K∧aN (dA K) 3 H (.slice Ax S.x.length cx) S.x∧aN (dA K) 3 H (.slice Ad S.sy.length cd) S.sy∧aN (dA K) 3 H (.slice Ar S.oR.length cr) S.oR
theorem Re.k{K:Nat}{H:Heap}{s:Value}{S:xg}(h:Re H s S)(hz:Zf K S):alF K H s S:=by
 obtain⟨f,u,w,xv,dv,rv,rfl,h4,h5,h6,h7⟩:=h
 obtain⟨Ax,cx,_,rfl,_⟩:=id h5
 obtain⟨Ad,cd,_,rfl,_⟩:=id h6
 obtain⟨Ar,cr,_,rfl,_⟩:=id h7
 have hx:=h5.zC fun q hq=>hz q (.inl hq)
 have hd:=h6.zC fun q hq=>hz q (.inr (.inl hq))
 have hr:=h7.zC fun q hq=>hz q (.inr (.inr (.inl hq)))
 rcases h4 with h4 | ⟨h4,rfl,rfl,rfl⟩
 ·obtain⟨u',w',e,hu,hw⟩:=id h4
  have e':=DK (vs:=[.bool f,u,w]) e
  simp only[List.cons.injEq,and_true]at e'
  obtain⟨_,rfl,rfl⟩:=e'
  obtain⟨A1,c1,rfl,_⟩:=id hu
  obtain⟨A2,c2,rfl,_⟩:=id hw
  exact⟨_,_,_,_,_,_,_,_,_,_,_,_,_,rfl,(bH.raw h4).mono (hz _ (.inr (.inr (.inr rfl)))),hx,hd,hr⟩
 ·exact⟨_,_,_,_,_,_,_,_,_,_,_,_,_,rfl,by rw[h4];exact Mf,hx,hd,hr⟩
def TR(p:Prg)(c:List Rat)(H:Heap)(v:Value)(H':Heap):Prop:=Heap.le H H'∧∃S f A1 m1 c1 A2 m2 c2 Ax cx Ad cd Ar cr,v = .tuple #[.agg #[.int .i64 S.status,.bool f,.slice A1 m1 c1,.slice A2 m2 c2,.slice Ax S.x.length cx,.slice Ad S.sy.length cd,.slice Ar S.oR.length cr],.int .i64 0]∧Bi p c S∧Zh p c S∧cW H' (.agg #[.bool f,.slice A1 m1 c1,.slice A2 m2 c2]) S.value KX∧aN (dA KX) 3 H' (.slice Ax S.x.length cx) S.x∧aN (dA KX) 3 H' (.slice Ad S.sy.length cd) S.sy∧aN (dA KX) 3 H' (.slice Ar S.oR.length cr) S.oR
theorem alG{N M:Nat}{H:Heap}{v cv:Value}{p:Prg}{c:List Rat}(hp:nt N H v p)(hc:aN (dA N) 3 H cv c)(hN:N≤400000000)(bO:p.Ok)(hlen:c.length=p.free.length)(hf:Fits p c M)(hM:M≤99999998):Fn Tryz.prog 52 #[v,cv] H (TR p c H):=by
 have hn:=bO.pP
 refine(aiA hp hc hf (by omega) (by omega) (by omega)).mono ?_
 rintro v' H' ⟨hl,s,e,rfl,h3⟩
 rcases h3 with h3 | h3 | ⟨_,_,rfl,S,k4,k5,k6,k7⟩
 ·exact absurd bO h3.1
 ·exact absurd hlen h3.2.1
 ·obtain⟨f,A1,m1,c1,A2,m2,c2,Ax,cx,Ad,cd,Ar,cr,rfl,g1,g2,g3,g4⟩:=k4.k (K:=KX) (fun q hq=>Nat.le_trans (k6 q hq) (by show _≤200000000;omega))
  exact⟨hl,S,f,A1,m1,c1,A2,m2,c2,Ax,cx,Ad,cd,Ar,cr,rfl,k5,k7,g1,g2,g3,g4⟩
theorem TR.le{p:Prg}{c:List Rat}{H:Heap}{v:Value}{H':Heap}(h:TR p c H v H'):Heap.le H H':=h.1
theorem alH{N:Nat}{H:Heap}{g k:Nat}:aN (dA N) 3 (ins H g ⟨cR [.bool false,.slice none 0 0,.slice none 0 0] ((k:Int).toNat*3),(k:Int).toNat*3,38,true⟩) (.slice (some ⟨g,0,none⟩) (k:Int).toNat (k:Int).toNat) (List.replicate k 0):=by
 rw[Int.toNat_natCast]
 exact⟨_,k,_,by rw[List.length_replicate],by rw[List.length_replicate];exact Nat.le_refl _,eN _ _ _ _ _ _,Gd (P:=dA N _) rfl Mf k⟩
theorem alI(k j:Nat):fn (List.replicate k 0) j=0:=by
 unfold fn
 rw[List.getD,List.getElem?_replicate]
 split <;> rfl
end Go.aq
namespace Go.aq
open Go.Proofs Num Lp
structure gh(gp:Nat)(H:Heap)(fv rv:Value)(rows:List (List Rat×Int×Rat))(xs:List Value):Prop where
 pb:H gp=some ⟨[fv,rv],2,55,true⟩
 own:bW H rv 80 5 rows.length xs
 jG:bG (gB 1 (rem H (gp::aC rv))) 5 xs rows
 apart:¬gp∈aC rv
theorem TS(H:Heap)(a b:List Nat):rem (rem H b) a=rem H (a++b):=by
 funext g
 by_cases h1:g∈a
 ·rw[rem_in h1,rem_in (List.mem_append_left _ h1)]
 ·rw[bM h1]
  by_cases h2:g∈b
  ·rw[rem_in h2,rem_in (List.mem_append_right _ h2)]
  ·rw[bM h2,bM (by rw[List.mem_append];exact fun h=>h.elim h1 h2)]
section
variable {gp:Nat} {H H':Heap} {fv rv:Value} {rows:List (List Rat×Int×Rat)} {xs:List Value}
theorem gh.gx(h:gh gp H fv rv rows xs):gH [gp] (rem H (aC rv)) (gB 1) 80 5 H rv rows xs:=by
 refine⟨h.own,h.jG,?_,fun q hq=> ?_,fun q hq=> ?_,fun q hq=> ?_⟩
 ·rw[TS];exact .refl _
 ·rw[List.mem_singleton.1 hq,bM h.apart]
 ·rw[List.mem_singleton.1 hq,bM h.apart,h.pb];simp
 ·rw[List.mem_singleton.1 hq];exact h.apart
theorem gh.live(h:gh gp H fv rv rows xs):∀q,q∈gp::aC rv→H q≠none:=fun q hq=>by
 rcases List.mem_cons.1 hq with rfl | hq
 ·rw[h.pb];simp
 ·obtain⟨en,he⟩:=h.own.block (dh.1 hq);rw[he];simp
theorem gh.step(h:gh gp H fv rv rows xs)(hs:∀q,q∈gp::aC rv→H' q=H q)(hl:Heap.le (rem H (gp::aC rv)) (rem H' (gp::aC rv))):gh gp H' fv rv rows xs:=
 ⟨(hs gp (List.mem_cons_self ..)).trans h.pb,h.own.same fun q hq=>hs q (List.mem_cons_of_mem _ (dh.2 hq)),h.jG.mono fun vs a=>lF 1 _ _ vs a hl,h.apart⟩
theorem gh.call(h:gh gp H fv rv rows xs){R:Program}{f:FuncId}{args:Array Value}{bE:Value→Heap→Prop}(hc:Fn R f args (rem H (gp::aC rv)) bE):Fn R f args H (qB (gp::aC rv) bE H):=Fn.frame h.live hc
theorem gh.km(h:gh gp H fv rv rows xs){bE:Value→Heap→Prop}{r:Value}(hf:qB (gp::aC rv) bE H r H')(hl:∀v' K,bE v' K→Heap.le (rem H (gp::aC rv)) K):gh gp H' fv rv rows xs:=h.step hf.same (hl _ _ hf.post)
theorem gh.ins(h:gh gp H fv rv rows xs){g:Nat}(en:Ent)(hg:H g=none):gh gp (ins H g en) fv rv rows xs:=by
 have hn:¬g∈gp::aC rv:=fun hm=>h.live g hm hg
 refine h.step (fun q hq=>bn _ _ fun e=>hn (e▸hq)) ?_
 rw[wW _ hn]
 exact Heap.bI _ (by rw[bM hn];exact hg)
theorem gh.push(h:gh gp H fv rv rows xs){gb:Nat}(a6:H gb=none){us:List Value}{r:List Rat×Int×Rat}(hr:gB 1 (rem H (gp::aC rv)) us r)(hl:us.length=5){v':Value}{H6:Heap}(ha:App (aq.ins H gb (whole us 80)) rv 80 5 (rows.length+1) (xs++us) v' H6):
  H6 gp=some ⟨[fv,rv],2,55,true⟩∧gh gp (aq.ins H6 gp ⟨[fv,v'],2,55,true⟩) fv v' (rows ++ [r]) (xs++us)∧Heap.le (rem H (gp::aC rv)) (rem (aq.ins H6 gp ⟨[fv,v'],2,55,true⟩) (gp::aC v')):=by
 have g2:=h.gx.ins (lF 1) (whole us 80) a6
 have hle:Heap.le (rem H (gp::aC rv)) (rem (aq.ins H gb (whole us 80)) ([gp]++aC rv)):=se _ (Heap.bI _ a6)
 have g3:=g2.append (lF 1) (j:=[r]) rfl ha (jq (lF 1 _ _ _ _ hle hr) hl)
 have hb:=g3.base
 rw[TS]at hb
 have h6:H6 gp=some ⟨[fv,rv],2,55,true⟩:=by
  rw[g3.same gp (List.mem_singleton.2 rfl),bM h.apart];exact h.pb
 have vQ:¬gp∈aC v':=g3.apart gp (List.mem_singleton.2 rfl)
 have Nu:rem (aq.ins H6 gp ⟨[fv,v'],2,55,true⟩) (gp::aC v')=rem H6 (gp::aC v'):=cJ _ (List.mem_cons_self ..)
 refine⟨h6,⟨bC _ _ _,g3.own.same fun q hq=>bn _ _ fun e=>vQ (e▸dh.2 hq),?_,vQ⟩,?_⟩
 ·rw[Nu];exact g3.jG
 ·rw[Nu];exact hb
theorem gh.alJ(h:gh gp H fv rv rows xs):aN (gB 1) 5 H rv rows:=Ge.sl ⟨xs,h.own,h.jG.mono fun vs a=>lF 1 _ _ vs a (bF _ _)⟩
theorem gh.form(h:gh gp H fv rv rows xs):∃A c,rv = .slice A rows.length c:=h.own.form
theorem gh.c0(h:gh gp H fv rv rows xs):cell H ⟨gp,0,none⟩=some fv:=by simp[cell,h.pb]
theorem gh.c1(h:gh gp H fv rv rows xs):cell H ⟨gp,1,none⟩=some rv:=by simp[cell,h.pb]
end
theorem gh.cells{gp:Nat}{H:Heap}{fv rv:Value}{rows:List (List Rat×Int×Rat)}{xs:List Value}(h:gh gp H fv rv rows xs)(i:Nat)(v:Value)(hi: [fv,rv][i]? = some v):cell H ((⟨gp,0,none⟩:Addr).add i)=some v:=by
 rw[iu]
 match i,hi with
 | 0,hi=>cases hi;exact h.c0
 | 1,hi=>cases hi;exact h.c1
theorem alK{H:Heap}{gp:Nat}{fv:Value}:gh gp (ins H gp ⟨[fv,.slice none 0 0],2,55,true⟩) fv (.slice none 0 0) [] []:=
 ⟨bC _ _ _,lv _ _ _,sj,fun h=>by cases h⟩
def alL(gp:Nat)(H:Heap)(fv rv:Value)(rows:List (List Rat×Int×Rat))(r:List Rat×Int×Rat)(v:Value)(H':Heap):Prop:=v = .tuple #[]∧∃Hw oj,gh gp H' fv Hw (rows ++ [r]) oj∧Heap.le (rem H (gp::aC rv)) (rem H' (gp::aC Hw))
end Go.aq
namespace Go.aq
open Go.Proofs Num Lp
theorem alM{gp:Nat}{H H':Heap}{v:Value}{fs:List aJ}(hg:H gp≠none)(h:qB [gp] (Mm fs (rem H [gp])) H v H'):∃ys,gH [gp] H o6 25 2 H' v fs ys:=by
 obtain⟨⟨ys,hG⟩,hs⟩:=h
 have hle:Heap.le (rem (rem H' [gp]) (aC v)) (rem H' ([gp]++aC v)):=by
  rw[TS];exact xM fun q hq=>by
   rcases List.mem_append.1 hq with h | h
   ·exact List.mem_append_right _ h
   ·exact List.mem_append_left _ h
 have vQ:∀q,q∈[gp]→¬q∈aC v:=fun q hq hm=>hG.uK q hm (rem_in hq)
 refine⟨ys,hG.own.same fun q hq=> ?_,hG.jG.mono fun vs a=>gJ _ _ vs a hle,hG.base.trans hle,hs,fun q hq=> ?_,vQ⟩
 ·rw[bM fun hm=>vQ q hm (dh.2 hq)]
 ·rw[List.mem_singleton.1 hq];exact hg
theorem alN{gp g e:Nat}{H:Heap}{fv rv:Value}{rows:List (List Rat×Int×Rat)}{xs:List Value}(z0 z:Int)(hg:H g=none)(hp:gh gp H fv rv rows xs):
  gh gp (ins (ins H g (whole [.int .i64 z0] e)) g {whole [.int .i64 z0] e with xs:=aL (whole [.int .i64 z0] e).xs 0 [.int .i64 z]}) fv rv rows xs∧Heap.le (rem H (gp::aC rv)) (rem (ins (ins H g (whole [.int .i64 z0] e)) g {whole [.int .i64 z0] e with xs:=aL (whole [.int .i64 z0] e).xs 0 [.int .i64 z]}) (gp::aC rv))∧
  cell (rem (ins (ins H g (whole [.int .i64 z0] e)) g {whole [.int .i64 z0] e with xs:=aL (whole [.int .i64 z0] e).xs 0 [.int .i64 z]}) (gp::aC rv)) ⟨g,0,none⟩=some (.int .i64 z):=by
 have hn:¬g∈gp::aC rv:=fun hm=>hp.live g hm hg
 rw[nF]
 refine⟨hp.ins _ hg,se _ (Heap.bI _ hg),?_⟩
 unfold cell
 rw[bM hn,bC]
 simp[whole,aL]
end Go.aq
namespace Go.aq
open Go.Proofs Num Lp
theorem abK{n:Int}(h: -1048576≤n∧n≤1048576){H:Heap}{v:Value}(hv:bH H v (n:Rat)):cW H v (n:Rat) 1:=(bH.raw hv).mono (rb h)
theorem alO{H:Heap}{f:aJ}{A:Option Addr}{c g:Nat}{v:Int}(hc:cell H ⟨g,0,none⟩=some (.int .i64 v))(hf:aN gX 2 H (.slice A f.ts.length c) f.ts)(hl:f.ts.length≤1000000):
 Fn Tryz.prog 50 #[.agg #[.int .i64 f.c,.slice A f.ts.length c],.pointer (some ⟨g,0,none⟩)] H (j8 H (.int .i64 (f.bU v))):=by
 refine aY (args:=[_,_]) Tryz.func50 rfl rfl Tryz.ntmps50 rfl rfl fun w0=> ?_;refine ah [0,1] rfl ?_;refine ae (bZ rfl rfl (aa 1 rfl (ab [1,2] ?_)));refine ae (aa 1 rfl (aR ag rfl rfl rfl (hc) (aB rfl rfl (TC hf hl) ?_)));rintro _ _ ⟨e2,rfl⟩;rw[e2];refine aa 1 rfl (ab [3] ?_);refine az ⟨.inr rfl,_,.tmp rfl (.nil),?_⟩;exact⟨rfl,rfl⟩
theorem alP{H:Heap}{f:aJ}{A:Option Addr}{c:Nat}:
 Fn Tryz.prog 51 #[.agg #[.int .i64 f.c,.slice A f.ts.length c]] H (j8 H (.int .i64 f.c)):=by
 refine aY (args:=[_]) Tryz.func51 rfl rfl Tryz.ntmps51 rfl rfl fun w0=> ?_;refine ah [0] rfl ?_;refine ae (bZ rfl rfl (aa 1 rfl (ab [1] ?_)));refine ae (aa 3 rfl (ab [2] ?_));refine az ⟨.inr rfl,_,.tmp rfl (.nil),?_⟩;exact⟨rfl,rfl⟩
theorem abL{H:Heap}{gf gp:Nat}{fs:List aJ}{A:Option Addr}{c:Nat}{fv rv part:Value}{rows:List (List Rat×Int×Rat)}{xs:List Value}{rel bound:Int}{g:aJ→Int}(Ct:cell (rem H (gp::aC rv)) ⟨gf,0,none⟩=some (.slice A fs.length c))(hv:kn (rem H (gp::aC rv)) (.slice A fs.length c) fs)(TF:aaf (rem H (gp::aC rv)) part g)(hp:gh gp H fv rv rows xs)(hn:fs.length≤1000)(bO:∀(i:Nat)(f:aJ),fs[i]? = some f→eV f)(hg:∀f,eV f→-1048576≤g f∧g f≤1048576)(gM: -1048576≤bound∧bound≤1048576)(MV:rows.length≤5000):
 Fn Tryz.prog 48 #[.int .i64 rel,.int .i64 bound,part,.pointer (some ⟨gf,0,none⟩),.pointer (some ⟨gp,0,none⟩)] H (alL gp H fv rv rows (fs.map (fun f=>((g f:Int):Rat)),rel,(bound:Rat))):=by
 obtain⟨A',c',ys0,e,hc,hr,hx⟩:=id hv
 cases e
 obtain⟨iO,cap,rfl,Nr⟩:=id TF;refine aY (args:=[_,_,_,_,_]) Tryz.func48 rfl rfl Tryz.ntmps48 rfl rfl fun w0=> ?_;refine ah [0,1,2,3,4] rfl ?_;refine ae (aa 2 rfl (aB rfl rfl (hp.call (Dl (n:=bound) (by omega) (by omega)).rc) ?_));rintro _ H1 CE;have fi:=hp.km CE fun _ _ h=>h.1;have aoe:=CE.same;obtain⟨⟨bg,t1,rfl,bX⟩,_⟩:=CE;have Cu:=cF (bF _ _) (cF bg Ct);refine di ag rfl kU rfl rfl (bm kU rfl ?_);obtain⟨ti,aj,ak⟩:=oA;refine aI (.inl ⟨rfl,rfl⟩) rfl rfl rfl aj ak rfl rfl rfl (ab [2,3,4,8] ?_);refine ao (ae (aR ag rfl rfl rfl (Cu) (aa 2 rfl (ab [2,4,8,15,16,17] ?_))));refine aE (fD (fun(i:Nat)(cv:Value)(zs:List Value)=>fs.length-i) (fun(i:Nat)(cv:Value)(zs:List Value)=>put (put (put (put (put (put (emp) 2 (.val (.func (.func iO) #[] cap.toArray))) 4 (.val (.pointer (some ⟨gp,0,none⟩)))) 8 (.box [cv,.int .i64 rel,.bool t1.f,.slice t1.A1 t1.m1 t1.c1,.slice t1.A2 t1.m2 t1.c2])) 15 (.val (.slice A fs.length c))) 16 (.val (.int .i64 (fs.length:Int)))) 17 (.val (.int .i64 (i:Int)))) (fun(i:Nat)(cv:Value)(zs:List Value) H'=>gH (gp::aC rv) H1 cg 38 3 H' cv ((fs.take i).map (fun f=>((g f:Int):Rat))) zs∧i≤fs.length) 0 (.slice none 0 0) [] (⟨RD fi.live,Nat.zero_le _⟩) ar ?_)
 rintro i cv zs H2 ⟨hG,hi⟩;obtain⟨W,cw,rfl⟩:=hG.form
 have Ew:((fs.take i).map (fun f=>((g f:Int):Rat))).length=i:=by rw[List.length_map,List.length_take];omega
 have jZ:Heap.le (rem H (gp::aC rv)) (rem H2 ((gp::aC rv)++aC (.slice W ((fs.take i).map (fun f=>((g f:Int):Rat))).length cw))):=bg.trans hG.base;have TT:=jZ.trans (bF _ _);refine ae (aa 1 rfl (ab [2,4,8,15,16,17,18] ?_));refine ao (aD rfl (fun hb=> ?_) (fun hb=> ?_))
 ·
  have aO:i<fs.length:=by simpa using hb
  obtain⟨f,hf⟩:∃f,fs[i]? = some f:=⟨_,List.getElem?_eq_getElem aO⟩;obtain⟨B,cb,nE,kt⟩:=uO hx hf;have cE:=bO i f hf;have TH:=cE.len;have Ns:=hg f cE;refine aw (ah [2,4,8,15,16,17] rfl ?_);refine ao (aE (ae (bY ag rfl rfl rfl rfl (hr.le TT) rfl (by decide) (kt) (by omega) (by omega) fun _=>(bm im rfl ?_))));obtain⟨ti,aj,ak⟩:=AJ;refine aI (.inl ⟨rfl,rfl⟩) rfl rfl rfl aj ak rfl rfl rfl (ab [2,4,8,10,15,16,17] ?_);refine eK .bK [0,1,2,3,4,5,6,7,8,9] follows (by kernel_rfl) ?_;refine aa 4 rfl (CX (cap:=cap) (args:=[.agg #[.int .i64 f.c,.slice B f.ts.length cb]]) rfl rfl (Nr H2 TT f B cb (nE.le fc TT) (by omega)) (.inr fun _ _ h=>h.le) ?_);rintro _ _ ⟨e3,rfl⟩;rw[e3];refine aW rfl rfl (hG.call (Dl (n:=g f) (by omega) (by omega)).rc) (fun _ _ h=>h.le fun _ _ k=>k.1) ?_;rintro _ H3 hF3;have uQ:=hG.km ef hF3 fun _ _ h=>h.1;obtain⟨⟨_,t3,rfl,iD⟩,_⟩:=hF3;refine cS Tryz.underlying28 cj rfl rfl rfl rfl rfl rfl rfl ?_;intro gb a6;have nZ:=uQ.ins ef (whole (ee [t3.v]) 38) a6;refine eD Tryz.underlying28 cj rfl rfl nZ.own (eN _ _ _ _ _ _) rfl (ED _ _ _ _ _ _ _) (by rw[Ew];omega) (by rw[Ew];omega) ?_;intro v5 H5 ha5;have qg:=nZ.append ef (j:=[((g f:Int):Rat)]) (by simp) ha5 (jq (ef _ _ _ _ (se _ (Heap.bI _ a6)) (show cg _ [_,_,_] _ from iD)) rfl)
  obtain⟨W5,cw5,rfl⟩:∃A c,v5 = .slice A (((fs.take i).map (fun f=>((g f:Int):Rat))) ++ [((g f:Int):Rat)]).length c:=qg.form;refine vr 1 ?_;obtain⟨ti,aj,ak⟩:=Oc;refine aI (.inr rfl) rfl rfl rfl aj ak rfl rfl rfl (au (ah [2,4,8,15,16,17] rfl ?_));refine aA rfl (aF rfl rfl ⟨by omega,by omega⟩ (aa 1 rfl (au ?_)));exact⟨i+1,_,_,by omega,ar,by rw[uL hf];exact qg,by omega⟩
 ·
  have hb:fs.length≤i:=by simpa using hb
  obtain rfl:i=fs.length:=by omega
  have Jp:(fs.take fs.length).map (fun f=>((g f:Int):Rat))=fs.map (fun f=>((g f:Int):Rat)):=by rw[List.take_length]
  have dJ:=fi.step hG.same (hG.base.trans (xM fun q hq=>List.mem_append_left _ hq));obtain⟨Ar,cr,rfl⟩:=dJ.form
  have pH:=(hG.sl ef).zC (N:=1) fun q hq=>by
   obtain⟨f9,_,rfl⟩:=List.mem_map.1 hq
   rename_i h9
   obtain⟨k9,gG⟩:=List.getElem?_of_mem (List.mem_of_mem_take h9);exact rb (hg f9 (bO k9 f9 gG))
  have K2:gB 1 (rem H2 (gp::aC (.slice Ar rows.length cr))) [.slice W ((fs.take fs.length).map (fun f=>((g f:Int):Rat))).length cw,.int .i64 rel,.bool t1.f,.slice t1.A1 t1.m1 t1.c1,.slice t1.A2 t1.m2 t1.c2] ((fs.take fs.length).map (fun f=>((g f:Int):Rat)),rel,(bound:Rat)):=⟨_,_,_,_,rfl,pH,abK gM (bH.le bX (hG.base.trans (xM fun q hq=>List.mem_append_left _ hq)))⟩;refine aU (ah [4,8] rfl ?_);refine aA rfl (aV ag rfl rfl rfl (aR ag rfl rfl rfl (dJ.c1) (aa 1 rfl (cS Tryz.underlying53 kU rfl rfl rfl rfl rfl rfl rfl ?_))));intro gb a6;refine eD Tryz.underlying53 kU rfl rfl (dJ.ins _ a6).own (eN _ _ _ _ _ _) rfl (ZF _ _ _ _ _ _ _ _ _ _ _) (by omega) (by omega) ?_;intro v7 H7 uW;obtain⟨h7,Jq,gA⟩:=dJ.push a6 K2 rfl uW;rw[Jp]at Jq;obtain⟨A7,c7,rfl⟩:=Jq.form;refine aV ag rfl rfl rfl ?_;obtain⟨ti9,QD,QE⟩:=U3;refine j9 (g:=gp) (o:=1) (.inl rfl) rfl h7 rfl (Nat.le_refl 2) QD QE rfl rfl rfl rfl (au ?_);refine⟨.inl rfl,_,.nil,?_⟩;exact⟨rfl,_,_,Jq,((bg.trans hG.base).trans (xM fun q hq=>List.mem_append_left _ hq)).trans gA⟩
end Go.aq
namespace Go.aq
open Go.Proofs Num Lp
theorem alQ{x:Nat}(h:x≤1048576):x.log2≤20:=by
 by_cases h0:x=0
 ·subst h0;decide
 ·have:=(Nat.log2_lt (n:=x) (k:=21) h0).2 (by omega);omega
theorem TU{n:Int}(h: -1048576≤n∧n≤1048576):av.wt (n:Rat)≤22:=by
 unfold av.wt
 rw[Rat.num_intCast,Rat.den_intCast]
 have h1:=alQ (x:=n.natAbs) (by omega)
 have h2:Nat.log2 1=0:=by decide
 omega
theorem TV{fr:Nat→Bool}:∀{k:Nat},(∀j,j<k→fr j=false)→a7 fr k=k
 | 0,_=>rfl
 | k+1,h=>by
  unfold a7
  rw[TV fun j hj=>h j (by omega),h k (by omega)];simp
theorem TW{rel:Nat→Int}{c:Nat}:∀{k:Nat},(∀i,i<k→rel i=2)→bB rel c k=c
 | 0,_=>rfl
 | k+1,h=>by
  unfold bB
  rw[TW fun i hi=>h i (by omega),if_pos (h k (by omega))];rfl
structure Ints(p:Prg)(c:List Rat):Prop where
 row:∀r,r∈p.rows→(∀q,q∈r.1→∃n:Int,q=(n:Rat)∧-1048576≤n∧n≤1048576)∧∃n:Int,r.2.2=(n:Rat)∧-1048576≤n∧n≤1048576
 vec:∀q,q∈c→∃n:Int,q=(n:Rat)∧-1048576≤n∧n≤1048576
theorem abM{p:Prg}{c:List Rat}(h:Ints p c){k a m:Nat}(hk:Eo p k)(pU:k≤7)(hm:p.rows.length≤m)(ha:∀r,r∈p.rows→r.1.length≤a)(hc:c.length≤a)(hma:m*(a+1)+a≤1000):∃M,Fits p c M∧M≤99999998:=by
 have h1:∀q,q∈nums p c→av.wt q≤22:=fun q hq=>by
  rcases List.mem_cons.1 hq with rfl | hq
  ·decide
  ·rcases List.mem_append.1 hq with hq | hq
   ·obtain⟨r,hr,hq⟩:=List.mem_flatMap.1 hq
    obtain⟨k1,n,k2,k3⟩:=h.row r hr
    rcases List.mem_cons.1 hq with rfl | hq
    ·rw[k2];exact TU k3
    ·obtain⟨n,k2,k3⟩:=k1 q hq
     rw[k2];exact TU k3
   ·obtain⟨n,k2,k3⟩:=h.vec q hq
    rw[k2];exact TU k3
 have h2:=Zz h1
 have h3:=ZC ha
 have UT:p.rows.length*(a+1)≤m*(a+1):=Nat.mul_le_mul_right _ hm
 have h4:(nums p c).length≤1001:=by
  simp only[nums,List.length_cons,List.length_append];omega
 have h5:av.ix (nums p c)≤1001*22:=Nat.le_trans h2 (Nat.mul_le_mul_right _ h4)
 have h6:p.lp.m≤1000:=by
  have e:p.lp.m=p.rows.length:=rfl
  have h9:m*1≤m*(a+1):=Nat.mul_le_mul_left _ (by omega)
  omega
 refine⟨_,ahJ (D0:=av.iQ (nums p c)) (f:=2*av.ix (nums p c)) (ai1 p c) (ai2 p c) ⟨av.KZ _,Nat.le_trans (av.DN _) (Nat.pow_le_pow_right (by decide) (by omega)),fun i hi=>av.Ps (ZB hi).2⟩ hk,?_⟩
 unfold bits uz
 have h7:=Nat.mul_le_mul (Nat.pow_le_pow_right (n:=2) (by decide) pU) (show 4*av.ix (nums p c)+p.lp.m+1≤4*(1001*22)+1000+1 by omega)
 have h8:2^7*(4*(1001*22)+1000+1)=11403392:=by decide
 omega
section
variable {fs:List aJ} {vs:List Int} {g:aJ} {b:Int}
theorem abN{r:List Rat×Int×Rat}(h:r∈(cN fs vs g b).rows):(∃v,r=(fs.map (fun f=>((f.bU v:Int):Rat)),(2:Int),((g.bU v:Int):Rat)))∨r=(fs.map (fun f=>((f.c:Int):Rat)),(1:Int),(b:Rat)):=by
 simp only[cN,List.mem_append,List.mem_map,List.mem_singleton]at h
 rcases h with ⟨v,_,rfl⟩ | rfl
 ·exact .inl ⟨v,rfl⟩
 ·exact .inr rfl
theorem alR(bO:∀(i:Nat)(f:aJ),fs[i]? = some f→eV f)(hg:eV g)(hb: -1048576≤b∧b≤1048576)(k:Nat):Ints (cN fs vs g b) (List.replicate k 0):=by
 refine⟨fun r hr=> ?_,fun q hq=>⟨0,(List.mem_replicate.1 hq).2,by omega,by omega⟩⟩
 have hm:∀f,f∈fs→eV f:=fun f hf=>by obtain⟨i,hi⟩:=List.getElem?_of_mem hf;exact bO i f hi
 rcases abN hr with ⟨v,rfl⟩ | rfl
 ·refine⟨fun q hq=> ?_,_,rfl,hg.o0 v⟩
  obtain⟨f,hf,rfl⟩:=List.mem_map.1 hq
  exact⟨_,rfl,(hm f hf).o0 v⟩
 ·refine⟨fun q hq=> ?_,_,rfl,hb⟩
  obtain⟨f,hf,rfl⟩:=List.mem_map.1 hq
  exact⟨_,rfl,(hm f hf).const⟩
theorem alS(hf:fs.length≤6):Eo (cN fs vs g b) 7:=by
 refine .inr ?_
 have hm:(cN fs vs g b).lp.m=vs.length+1:=by simp[Prg.lp,cN]
 have hn:(cN fs vs g b).lp.n=fs.length:=by simp[Prg.lp,cN]
 have vh:∀j,(cN fs vs g b).lp.free j=false:=fun j=>by
  simp only[Prg.lp,cN,List.getD,List.getElem?_replicate]
  split <;> rfl
 have kM:∀i,i<vs.length→(cN fs vs g b).lp.rel i=2:=fun i hi=>by
  show ((cN fs vs g b).row i).2.1=2
  rw[Z1 (List.getElem?_eq_getElem hi)]
 have h1:(cN fs vs g b).c1=fs.length:=by
  show a7 _ (cN fs vs g b).lp.n=_
  rw[TV fun j _=>vh j,hn]
 have h2:(cN fs vs g b).u≤fs.length+1:=by
  show bB _ (cN fs vs g b).c1 (cN fs vs g b).lp.m≤_
  rw[hm,h1]
  unfold bB
  rw[TW kM]
  split <;> omega
 have h3:=(qQ (cN fs vs g b).lp.rel (cN fs vs g b).aH (cN fs vs g b).u (cN fs vs g b).lp.m).1
 have e:(cN fs vs g b).w=a8 (cN fs vs g b).lp.rel (cN fs vs g b).aH (cN fs vs g b).u (cN fs vs g b).lp.m:=rfl
 omega
theorem alT(bO:∀(i:Nat)(f:aJ),fs[i]? = some f→eV f)(hg:eV g)(hb: -1048576≤b∧b≤1048576)(hf:fs.length≤6)(hv:vs.length≤100):∃M,Fits (cN fs vs g b) (List.replicate fs.length 0) M∧M≤99999998:=
 abM (k:=7) (a:=6) (m:=101) (alR bO hg hb _) (alS hf) (Nat.le_refl _) (by simp[cN];exact hv) (fun r hr=>by
  rcases abN hr with ⟨v,rfl⟩ | rfl
  ·rw[List.length_map];exact hf
  ·rw[List.length_map];exact hf) (by rw[List.length_replicate];exact hf) (by decide)
theorem TX{p:Prg}{k:Nat}{S:xg}(h:Bi p (List.replicate k 0) S):(S.status=1∧p.lp.gq 1 (fn S.x)∧S.x.length=p.free.length)∨(S.status=2∧p.lp.yZ):=by
 rcases h.KV with ⟨h1,_⟩ | ⟨h1,h2,_⟩ | ⟨h1,h2,_⟩
 ·obtain⟨_,h2,_⟩:=h.at1 h1
  exact .inl ⟨h1,h2.fp.meets,h2.fp.len⟩
 ·exact .inr ⟨h1,h2⟩
 ·obtain⟨x,_,bP⟩:=h2.2 0
  have h9:cH p.lp.n (fn (List.replicate k 0)) x=0:=lA fun j _=>by rw[alI];exact Rat.zero_mul _
  rw[h9]at bP
  exact absurd bP (by decide)
end
end Go.aq
