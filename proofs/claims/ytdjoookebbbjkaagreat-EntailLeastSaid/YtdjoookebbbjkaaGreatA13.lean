/- Part 13 of the proof: Sl, Val2, Chk1, Dual, Rdual, So, Qq, SDat3. -/
import Derived.Test.YtdjoookebbbjkaaGreatA12
set_option linter.unusedVariables false
namespace Go.aq
open Go.Proofs Num Lp
theorem aaJ{q:Rat}:fI q<0↔q<0:=by
 unfold fI;split
 ·simp[*]
 ·split <;> simp_all
theorem aaK{q:Rat}:fI q≤0↔q≤0:=by
 unfold fI;split
 ·exact⟨fun _=>by grind,fun _=>by decide⟩
 ·split
  ·exact⟨fun _=>by grind,fun _=>by decide⟩
  ·exact⟨fun h=>absurd h (by decide),fun h=>by grind⟩
theorem akc{p q:Rat}:wM p q<0↔p<q:=by
 unfold wM;split
 ·simp[*]
 ·split <;> simp_all
theorem akd{p q:Rat}:wM p q=0↔p=q:=by
 unfold wM;split
 ·exact⟨fun h=>absurd h (by decide),fun h=>by grind⟩
 ·split
  ·simp[*]
  ·exact⟨fun h=>absurd h (by decide),fun h=>by grind⟩
structure IZ where
 i:Nat
 z:Int
 t:RC
def I0(M:Nat→Nat→Rat)(B:Nat→Nat)(n c:Nat)(K:Heap)(y:IZ):Prop:=(y.z = -1∧∀i,i<y.i→M i c≤0)∨∃(r:Nat)(q:Rat),y.z=(r:Int)∧r<y.i∧0<M r c∧bH K y.t.v q∧Lst M B n c y.i r q
theorem ake{M:Nat→Nat→Rat}{B:Nat→Nat}{n c:Nat}{K K':Heap}{y:IZ}(h:I0 M B n c K y)(hl:Heap.le K K')(hk:M y.i c≤0):I0 M B n c K' ⟨y.i+1,y.z,y.t⟩:=by
 rcases h with ⟨h1,h2⟩ | ⟨r,q,h1,h2,h3,h4,h5⟩
 ·refine .inl ⟨h1,fun i hi=> ?_⟩
  by_cases e:i=y.i
  ·rw[e];exact hk
  ·exact h2 i (by have:i<y.i+1:=hi;omega)
 ·exact .inr ⟨r,q,h1,Nat.lt_succ_of_lt h2,h3,h4.le hl,aam h5 hk⟩
def SvP(M:Nat→Nat→Rat)(B:Nat→Nat)(n c m:Nat)(z:Int):Prop:=(z = -1∧∀i,i<m→M i c≤0)∨∃r:Nat,z=(r:Int)∧r<m∧0<M r c∧∃q,Lst M B n c m r q
def EnP(M:Nat→Nat→Rat)(R u:Nat)(z:Int):Prop:=(z = -1∧∀j,j<u→0≤M R j)∨∃s:Nat,z=(s:Int)∧s<u∧M R s<0∧∀j,j<s→0≤M R j
theorem akf{H:Heap}{G:GG}{R W m N u:Nat}{M:Nat→Nat→Rat}{B:Nat→Nat}(h:cA iG H G (R+1) W m M B)(hu:u≤W)(hz:∀j,j<u→aN (M R j)≤N)(hN:(N:Int)≤200000000000)(hR:(R:Int)≤1000000)(hW:(W:Int)≤1000000):
 Fn Tryz.prog 103 #[.agg #[.slice G.Ar (R+1) G.cr,G.bv],.int .i64 (u:Int)] H (fun v H'=>∃z,v = .int .i64 z∧Kept G.gs H H'∧EnP M R u z):=by
 obtain⟨pr,cW⟩:=h.get (Nat.lt_succ_self R)
 obtain⟨Ab,cb,du,fG⟩:=h.s9
 rw[du]
 obtain⟨xr0,sr0,tz,ID⟩:=h.rb cW;refine aZ (args:=[_,_]) Tryz.func103 rfl rfl Tryz.ntmps103 rfl rfl fun w0=> ?_;refine ah [0,1] rfl ?_;refine ae (bY rfl rfl (aa 1 rfl (ab [1,2] ?_)));refine ae (aa 5 rfl (cQ rfl rfl ⟨by omega,by omega⟩ (aS ag rfl rfl rfl rfl rfl (h.hd) (by rw[show (((R+1:Nat):Int)-1).toNat=R by omega];exact kj (rg:=G.rg) (W:=_) cW) (by omega) (by omega) fun _=> ?_)));refine aa 1 rfl (ab [1,5] ?_);refine ao (ae (aa 1 rfl (ab [1,5,6] ?_)));refine aE (fY (fun(k:Nat)=>u-k) (fun(k:Nat)=>put (put (put (emp) 1 (.val (.int .i64 (u:Int)))) 5 (.val (.slice (some ⟨pr.1,0,none⟩) W pr.2))) 6 (.val (.int .i64 (k:Int)))) (fun(k:Nat) H'=>Kept G.gs H H'∧k≤u∧∀j,j<k→0≤M R j) 0 (⟨.refl _ _,Nat.zero_le _,fun j hj=>absurd hj (Nat.not_lt_zero _)⟩) ar ?_);rintro k H1 ⟨gC,Lb,fT⟩;have PA:=(gC.same _ (GG.kI (GG.gJ cW))).trans tz;have h1:=h.kept gC;refine ao (ae (aa 3 rfl (ab [1,5,6,17] ?_)));refine aD rfl (fun hb=> ?_) (fun hb=> ?_)
 ·
  have aaL:k<u:=by simpa using hb
  obtain⟨t1,z8,jb⟩:=l5 ID (show k<W by omega);have nF:=hz k aaL;refine az (ah [1,5,6] rfl ?_);refine ao (aE (ae (aa 2 rfl (cj (vs:=[.bool t1.f,.slice t1.A1 t1.m1 t1.c1,.slice t1.A2 t1.m2 t1.c2]) ag rfl rfl rfl rfl (dQ PA) rfl (by decide) (by rw[Int.toNat_natCast];exact jb) (by omega) (by omega) fun _=> ?_))));refine aC rfl rfl (Fn.lR h1.ne (xK (bH.raw (z8.le gC.le)) (by omega))) ?_;rintro v2 H2 ⟨fN,cD,rfl⟩;refine aa 1 rfl (ab [1,5,6,25] ?_);refine aD rfl (fun hb=> ?_) (fun hb=> ?_)
  ·
   have hb:M R k<0:=aaJ.1 (by simpa using hb);refine ae (aa 2 rfl (ab [4] ?_));refine aB ⟨.inr rfl,_,.tmp rfl (.nil),?_⟩;exact⟨_,rfl,gC.trans fN,.inr ⟨k,rfl,aaL,hb,fT⟩⟩
  ·
   have hb:¬M R k<0:=fun h9=>by have:=aaJ.2 h9;simp at hb;omega
   refine az (ah [1,5,6] rfl ?_);refine aA rfl (aa 1 rfl (aF rfl rfl ⟨by omega,by omega⟩ (aa 1 rfl (au ?_))))
   exact⟨k+1,by omega,ar,gC.trans fN,by omega,fun j hj=>by
    by_cases ej:j=k
    ·subst ej;grind
    ·exact fT j (by omega)⟩
 ·
  have hb:u≤k:=by simpa using hb
  obtain rfl:k=u:=by omega
  refine aX (ah [] rfl ?_);refine ae (aa 1 rfl (ab [4] ?_));refine aB ⟨.inr rfl,_,.tmp rfl (.nil),?_⟩;exact⟨_,rfl,gC,.inl ⟨rfl,fT⟩⟩
theorem akg{H:Heap}{G:GG}{R W m N:Nat}{M:Nat→Nat→Rat}{B:Nat→Nat}{c:Nat}(h:cA iG H G R W m M B)(Sj:m≤R)(hc:c<W)(hz:∀i,i<m→∀j,j<W→aN (M i j)≤N)(hN:(N:Int)≤200000000000)(hR:(R:Int)≤1000000)(hW:(W:Int)≤1000000):
 Fn Tryz.prog 104 #[.agg #[.slice G.Ar (R) G.cr,G.bv],.int .i64 (c:Int)] H (fun v H'=>∃z,v = .int .i64 z∧Kept G.gs H H'∧SvP M B (W-1) c m z):=by
 obtain⟨Ab,cb,du,fG⟩:=h.s9
 have mb:∀{H':Heap},Kept G.gs H H'→∀i,i<m→Rd H' Ab (eN B m):=fun k i hi=>fG (t:=G.top) (h.kept k) i hi
 rw[du];refine aZ (args:=[_,_]) Tryz.func104 rfl rfl Tryz.ntmps104 rfl rfl fun w0=> ?_;refine ah [0,1] rfl ?_;refine ae (bY rfl rfl (aa 1 rfl (ab [1,2] ?_)));refine ae (cL ag rfl bQ rfl rfl (bh bQ rfl (vr 1 ?_)));obtain⟨ti,aj,ak⟩:=aU;refine aH (.inl ⟨rfl,rfl⟩) rfl rfl rfl aj ak rfl rfl rfl (ab [1,2,5,6] ?_);refine ao (ae (aa 4 rfl (ab [1,2,5,6,14,15] ?_)));refine aE (fY (fun(y:IZ)=>m-y.i) (fun(y:IZ)=>put (put (put (put (put (put (emp) 1 (.val (.int .i64 (c:Int)))) 2 (.box [.slice G.Ar R G.cr,.slice Ab m cb])) 5 (.val (.int .i64 y.z))) 6 (.box [.bool y.t.f,.slice y.t.A1 y.t.m1 y.t.c1,.slice y.t.A2 y.t.m2 y.t.c2])) 14 (.val (.int .i64 (m:Int)))) 15 (.val (.int .i64 (y.i:Int)))) (fun(y:IZ) H'=>Kept G.gs H H'∧y.i≤m∧I0 M B (W-1) c (rem H' G.gs) y) ⟨0,-1,⟨false,none,0,0,none,0,0⟩⟩ (⟨.refl _ _,Nat.zero_le _,.inl ⟨rfl,fun i hi=>absurd hi (Nat.not_lt_zero _)⟩⟩) ar ?_);rintro y H2 ⟨fN,hym,hI⟩;have h2:=h.kept fN;refine ae (aa 1 rfl (ab [1,2,5,6,14,15,16] ?_));refine ao (aD rfl (fun hb=> ?_) (fun hb=> ?_))
 ·
  have aP:y.i<m:=by simpa using hb
  obtain⟨pi,cU⟩:=h2.get (show y.i<R by omega);obtain⟨xi,si,sY,ya⟩:=h2.rb cU;obtain⟨t1,z8,jb⟩:=l5 ya hc;obtain⟨t2,fy,mU⟩:=l5 ya (show W-1<W by omega);have nF:=hz y.i aP c hc;have pG:=hz y.i aP (W-1) (by omega);refine az (ah [1,2,5,6,14,15] rfl ?_);refine ao (aE (ae (aa 2 rfl (ab [1,2,5,6,7,14,15] ?_))));refine ao (ae (aa 3 rfl (aS ag rfl rfl rfl rfl rfl (h2.hd) (by rw[Int.toNat_natCast];exact kj (rg:=G.rg) (W:=_) cU) (by omega) (by omega) fun _=> ?_)));refine aa 1 rfl (cj (vs:=[.bool t1.f,.slice t1.A1 t1.m1 t1.c1,.slice t1.A2 t1.m2 t1.c2]) ag rfl rfl rfl rfl (dQ sY) rfl (by decide) (by rw[Int.toNat_natCast];exact jb) (by omega) (by omega) fun _=> ?_);refine aC rfl rfl (Fn.lR h2.ne (xK (bH.raw z8) (by omega))) ?_;rintro v3 H3 ⟨dz,eF,rfl⟩;have h3:=h2.kept dz;have Iu:=fN.trans dz;have aaM:=(dz.same _ (GG.kI (GG.gJ cU))).trans sY;refine aa 1 rfl (ab [1,2,5,6,7,14,15,27] ?_);refine aD rfl (fun hb=> ?_) (fun hb=> ?_)
  ·
   have hb:M y.i c≤0:=aaK.1 (by simpa using hb);refine aX (ah [1,2,5,6,14,15] rfl ?_);refine aA rfl (aF rfl rfl ⟨by omega,by omega⟩ (aa 1 rfl (au ?_)));exact⟨⟨y.i+1,y.z,y.t⟩,(show m-(y.i+1)<m-y.i by omega),ar,Iu,(show y.i+1≤m by omega),ake hI dz.le hb⟩
  ·
   have fg:0<M y.i c:=by
    have h9:¬M y.i c≤0:=fun h9=>by have:=aaK.2 h9;simp at hb;omega
    grind
   refine az (ah [1,2,5,6,7,14,15] rfl ?_);refine bM .bJ [0,1,2,3,4,5,6,7,8,9,10,11,12,13,14,15,16,17,18,19,20,21,22,23,24,25,26,27,28] follows (gL [0,1,0,7,15,0,32,0,224,480,992,2016,4095,8191,0,16384,0,114688,245760,0,1032192,2080768,4194303,8388607,16777215,16777215,0,100663295,268435455] (by kernel_rfl)) ?_;refine aa 3 rfl (aS ag rfl rfl rfl rfl rfl (h3.hd) (by rw[Int.toNat_natCast];exact kj (rg:=G.rg) (W:=_) cU) (by omega) (by omega) fun _=> ?_);refine aa 3 rfl (aS ag rfl rfl rfl rfl rfl (h3.hd) (by rw[Int.toNat_natCast];exact kj (rg:=G.rg) (W:=_) cU) (by omega) (by omega) fun _=> ?_);refine aa 1 rfl (cQ rfl rfl ⟨by omega,by omega⟩ (cj (vs:=[.bool t2.f,.slice t2.A1 t2.m1 t2.c1,.slice t2.A2 t2.m2 t2.c2]) ag rfl rfl rfl rfl (dQ aaM) rfl (by decide) (by rw[show ((W:Int)-1).toNat=W-1 by omega];exact mU) (by omega) (by omega) fun _=> ?_));refine aa 3 rfl (aS ag rfl rfl rfl rfl rfl (h3.hd) (by rw[Int.toNat_natCast];exact kj (rg:=G.rg) (W:=_) cU) (by omega) (by omega) fun _=> ?_);refine aa 1 rfl (cj (vs:=[.bool t1.f,.slice t1.A1 t1.m1 t1.c1,.slice t1.A2 t1.m2 t1.c2]) ag rfl rfl rfl rfl (dQ aaM) rfl (by decide) (by rw[Int.toNat_natCast];exact jb) (by omega) (by omega) fun _=> ?_)
   refine aY rfl rfl (Fn.frame h3.ne (P8 (N:=N) ((bH.raw (fy.le dz.le)).mono (by omega)) ((bH.raw (z8.le dz.le)).mono (by omega)) (by omega))) (fun _ _ h=>h.le fun _ _ h=>h.1) ?_;rintro _ H8 uO;have qU:Kept G.gs H3 H8:= .of uO fun v K hp=>hp.1;obtain⟨_,w8,rfl,eQ⟩:=uO.post;obtain⟨t8,rfl⟩:=eQ.rc;have aaN:=Iu.trans qU;have h8:=h.kept aaN;have Mc:=D5 (M y.i (W-1)) (M y.i c)
   replace hI:I0 M B (W-1) c (rem H8 G.gs) y:=by
    rcases hI with h9 | ⟨r,q,h9,h5,h6,h7,h8⟩
    ·exact .inl h9
    ·exact .inr ⟨r,q,h9,h5,h6,(h7.le dz.le).le qU.le,h8⟩
   refine aa 3 rfl (bh bQ rfl ?_);obtain⟨ti,aj,ak⟩:=aU;refine aH (.inl ⟨rfl,rfl⟩) rfl rfl rfl aj ak rfl rfl rfl (aa 1 rfl (ab [1,2,5,6,7,8,14,15] ?_));refine ae (aa 1 rfl (ab [1,2,5,6,7,8,10,14,15] ?_));refine kM (fun(s:Int)=>put (put (put (put (put (put (put (put (put (emp) 1 (.val (.int .i64 (c:Int)))) 2 (.box [.slice G.Ar R G.cr,.slice Ab m cb])) 5 (.val (.int .i64 y.z))) 6 (.box [.bool y.t.f,.slice y.t.A1 y.t.m1 y.t.c1,.slice y.t.A2 y.t.m2 y.t.c2])) 7 (.val (.int .i64 (y.i:Int)))) 8 (.box [.bool t8.f,.slice t8.A1 t8.m1 t8.c1,.slice t8.A2 t8.m2 t8.c2])) 10 (.val (.int .i64 s))) 14 (.val (.int .i64 (m:Int)))) 15 (.val (.int .i64 (y.i:Int)))) (fun(s:Int) H'=>Kept G.gs H8 H'∧((y.z = -1∧s = -1∧∀i,i<y.i→M i c≤0)∨∃(r:Nat)(q:Rat),y.z=(r:Int)∧r<y.i∧0<M r c∧bH (rem H8 G.gs) y.t.v q∧Lst M B (W-1) c y.i r q∧(s<0↔M y.i (W-1)/M y.i c<q)∧(s=0↔M y.i (W-1)/M y.i c=q))) ?_ ?_
   ·
    refine ae (aa 2 rfl (ab [1,2,5,6,7,8,10,14,15,55] ?_));refine aD rfl (fun hb=> ?_) (fun hb=> ?_)
    ·
     have hb:0≤y.z:=by simpa using hb
     obtain⟨r,q,ez,yb,cW,kC,hL⟩:∃(r:Nat)(q:Rat),y.z=(r:Int)∧r<y.i∧0<M r c∧bH (rem H8 G.gs) y.t.v q∧Lst M B (W-1) c y.i r q:=by
      rcases hI with ⟨ez,_⟩ | h9
      ·omega
      ·exact h9
     have hzq:aN q≤2*N:=by
      rw[hL.1];have:=D5 (M r (W-1)) (M r c);have:=hz r (by omega) c hc;have:=hz r (by omega) (W-1) (by omega)
      omega
     refine aA rfl (aa 2 rfl (aC rfl rfl (Fn.lR h8.ne (XS (N:=2*N) ((bH.raw eQ).mono (by omega)) ((bH.raw kC).mono (by omega)) (by omega))) ?_));rintro v9 H9 ⟨gw,eT,rfl⟩;refine aa 1 rfl (au ?_);exact⟨_,ar,gw,.inr ⟨r,q,ez,yb,cW,kC,hL,akc,akd⟩⟩
    have hb:y.z<0:=by simpa using hb
    refine az ?_
    skip
    rcases hI with ⟨ez,fT⟩ | ⟨r,q,ez,_⟩
    ·exact⟨_,ar,.refl _ _,.inl ⟨ez,rfl,fT⟩⟩
    ·omega
   rintro s H9 ⟨E1,hs⟩;have gw:=aaN.trans E1;have h9:=h.kept gw;obtain⟨ez,es,fT⟩ | ⟨r,q,ez,yb,cW,kC,hL,j7,Cw⟩:=hs
   ·
    skip
    refine bM .bJ [0,1,2,3,4,5,6,7,8,9,10,11,12,13,14,15,16,17,18] follows (gL [0,1,3,7,15,31,63,127,63,511,1023,63,2111,63,14399,30783,65535,131071,262143] (by kernel_rfl)) ?_;refine aa 1 rfl (aG true rfl rfl (ja (by omega)) (aa 17 rfl (ab [1,2,5,6,7,8,14,15,77] ?_)));refine cK rfl (eo .bJ [0,1,2,3] follows (by kernel_rfl) ?_);refine vr 3 ?_;obtain⟨ti,aj,ak⟩:=aU;refine aH (.inl ⟨rfl,rfl⟩) rfl rfl rfl aj ak rfl rfl rfl (au (ah [1,2,5,6,14,15] rfl ?_));refine aA rfl (aF rfl rfl ⟨by omega,by omega⟩ (aa 1 rfl (au ?_)));exact⟨⟨y.i+1,y.i,t8⟩,(show m-(y.i+1)<m-y.i by omega),ar,gw,(show y.i+1≤m by omega),.inr ⟨y.i,_,rfl,Nat.lt_succ_self _,fg,eQ.le E1.le,aan fT rfl⟩⟩
   skip
   by_cases g1:s<0
   ·
    skip
    refine bM .bJ [0,1,2,3,4,5,6,7,8,9,10,11,12,13,14,15,16,17,18] follows (gL [0,1,3,7,15,31,63,127,63,511,1023,63,2111,63,14399,30783,65535,131071,262143] (by kernel_rfl)) ?_;refine aa 1 rfl (aG true rfl rfl (ja g1) (aa 17 rfl (ab [1,2,5,6,7,8,14,15,77] ?_)));refine cK rfl (eo .bJ [0,1,2,3] follows (by kernel_rfl) ?_);refine vr 3 ?_;obtain⟨ti,aj,ak⟩:=aU;refine aH (.inl ⟨rfl,rfl⟩) rfl rfl rfl aj ak rfl rfl rfl (au (ah [1,2,5,6,14,15] rfl ?_));refine aA rfl (aF rfl rfl ⟨by omega,by omega⟩ (aa 1 rfl (au ?_)));exact⟨⟨y.i+1,y.i,t8⟩,(show m-(y.i+1)<m-y.i by omega),ar,gw,(show y.i+1≤m by omega),.inr ⟨y.i,_,rfl,Nat.lt_succ_self _,fg,eQ.le E1.le,MF hL rfl (.inl (j7.1 g1))⟩⟩
   skip
   by_cases g2:s=0
   ·
    skip
    by_cases g3:B y.i<B r
    ·
     skip
     refine bM .bJ [0,1,2,3,4,5,6,7,8,9,10,11,12,13,14,15,16,17,18] follows (gL [0,1,3,7,15,31,63,127,63,511,1023,63,2111,63,14399,30783,65535,131071,262143] (by kernel_rfl)) ?_;refine aa 1 rfl (aG false rfl rfl (ia (by omega)) (aa 2 rfl (aG true rfl rfl (iL g2) (aa 4 rfl (aS ag rfl rfl rfl rfl rfl (mb gw y.i aP) (by rw[Int.toNat_natCast];exact gI aP) (by omega) (by omega) fun _=> ?_)))));refine aa 3 rfl (aS ag rfl rfl rfl rfl rfl (mb gw y.i aP) (by rw[ez,Int.toNat_natCast];exact gI (by omega)) (by omega) (by omega) fun _=> ?_);refine aG true rfl rfl (ja (by omega)) (aa 2 rfl (ab [1,2,5,6,7,8,14,15,77] ?_));refine cK rfl (eo .bJ [0,1,2,3] follows (by kernel_rfl) ?_);refine vr 3 ?_;obtain⟨ti,aj,ak⟩:=aU;refine aH (.inl ⟨rfl,rfl⟩) rfl rfl rfl aj ak rfl rfl rfl (au (ah [1,2,5,6,14,15] rfl ?_));refine aA rfl (aF rfl rfl ⟨by omega,by omega⟩ (aa 1 rfl (au ?_)));exact⟨⟨y.i+1,y.i,t8⟩,(show m-(y.i+1)<m-y.i by omega),ar,gw,(show y.i+1≤m by omega),.inr ⟨y.i,_,rfl,Nat.lt_succ_self _,fg,eQ.le E1.le,MF hL rfl (.inr ⟨Cw.1 g2,g3⟩)⟩⟩
    skip
    refine bM .bJ [0,1,2,3,4,5,6,7,8,9,10,11,12,13,14,15,16,17,18] follows (gL [0,1,3,7,15,31,63,127,63,511,1023,63,2111,63,14399,30783,65535,131071,262143] (by kernel_rfl)) ?_;refine aa 1 rfl (aG false rfl rfl (ia (by omega)) (aa 2 rfl (aG true rfl rfl (iL g2) (aa 4 rfl (aS ag rfl rfl rfl rfl rfl (mb gw y.i aP) (by rw[Int.toNat_natCast];exact gI aP) (by omega) (by omega) fun _=> ?_)))));refine aa 3 rfl (aS ag rfl rfl rfl rfl rfl (mb gw y.i aP) (by rw[ez,Int.toNat_natCast];exact gI (by omega)) (by omega) (by omega) fun _=> ?_);refine aG false rfl rfl (ia (by omega)) (aa 2 rfl (ab [1,2,5,6,7,8,14,15,77] ?_));refine dh rfl (az (ah [1,2,5,6,14,15] rfl ?_));refine aA rfl (aF rfl rfl ⟨by omega,by omega⟩ (aa 1 rfl (au ?_)));exact⟨⟨y.i+1,y.z,y.t⟩,(show m-(y.i+1)<m-y.i by omega),ar,gw,(show y.i+1≤m by omega),.inr ⟨r,q,ez,Nat.lt_succ_of_lt yb,cW,kC.le E1.le,ME hL rfl (.inr ⟨Cw.1 g2,g3⟩)⟩⟩
   skip
   refine bM .bJ [0,1,2,3,4,5,6,7,8,9,10,11,12,13,14,15,16,17,18] follows (gL [0,1,3,7,15,31,63,127,63,511,1023,63,2111,63,14399,30783,65535,131071,262143] (by kernel_rfl)) ?_;refine aa 1 rfl (aG false rfl rfl (ia (by omega)) (aa 2 rfl (aG false rfl rfl (ks g2) (aa 14 rfl (ab [1,2,5,6,7,8,14,15,77] ?_)))));refine dh rfl (az (ah [1,2,5,6,14,15] rfl ?_));refine aA rfl (aF rfl rfl ⟨by omega,by omega⟩ (aa 1 rfl (au ?_)));exact⟨⟨y.i+1,y.z,y.t⟩,(show m-(y.i+1)<m-y.i by omega),ar,gw,(show y.i+1≤m by omega),.inr ⟨r,q,ez,Nat.lt_succ_of_lt yb,cW,kC.le E1.le,ME hL rfl (.inl (by have k1:¬M y.i (W-1)/M y.i c<q:=fun k=>g1 (j7.2 k);have k2:¬M y.i (W-1)/M y.i c=q:=fun k=>g2 (Cw.2 k);grind))⟩⟩
 ·
  have aP:m≤y.i:=by simpa using hb
  have aP:y.i=m:=by omega
  refine aX (ah [5] rfl ?_);refine ae (aa 2 rfl (ab [4] ?_));refine aB ⟨.inr rfl,_,.tmp rfl (.nil),?_⟩;refine⟨y.z,rfl,fN,?_⟩;have h2:=hI
  unfold I0 at h2
  rw[aP]at h2
  rcases h2 with h9 | ⟨r,q,k1,k2,k3,_,k5⟩
  ·exact .inl h9
  ·exact .inr ⟨r,k1,k2,k3,q,k5⟩
theorem aaO{H:Heap}{G:GG}{W m u N:Nat}{M:Nat→Nat→Rat}{B:Nat→Nat}{Φ:av→Prop}{x:av}(h:cA iG H G (m+1) W m M B)(hu:u<W)(hm:(m:Int)≤900000)(hW:(W:Int)≤1000000)(dG:∀T r s,Φ T→T.oL u r s→Φ (T.pivot r s))(hx:Φ x)(hr:gW M B x m W)(Fw:Acc (av.Step u) x)(hB:∀i,i<m→B i<W)(hz:∀T,Φ T→∀j,j<W→aN (T.c j)≤N∧∀i,i<m→aN (T.A i j)≤N)(hN:(N:Int)≤200000000000):
 Fn Tryz.prog 57 #[.agg #[.slice G.Ar (m+1) G.cr,G.bv],.int .i64 (u:Int)] H (fun v H'=>∃M' B' b T,v = .bool b∧cA iG H' G (m+1) W m M' B'∧Heap.le (rem H G.gs) (rem H' G.gs)∧Φ T∧gW M' B' T m W∧(∀i,i<m→B' i<W)∧(b=true→∀j,j<u→0≤M' m j)∧(b=false→∃s,s<u∧M' m s<0∧∀i,i<m→M' i s≤0)):=by
 have yh:∀{M1:Nat→Nat→Rat}{B1:Nat→Nat}{T:av},Φ T→gW M1 B1 T m W→∀i,i<m+1→∀j,j<W→aN (M1 i j)≤N:=fun{M1 B1 T} hT hr i hi j hj=>by
  by_cases e:i=m
  ·rw[e,hr.ec j hj];exact(hz T hT j hj).1
  ·rw[hr.eA i (by omega) j hj];exact(hz T hT j hj).2 i (by omega)
 refine aZ (args:=[_,_]) Tryz.func57 rfl rfl Tryz.ntmps57 rfl rfl fun w0=> ?_;refine ah [0,1] rfl ?_;refine ae (bY rfl rfl (aa 1 rfl (ab [1,2] ?_)));refine aE (JQ (γ:=av) (av.Step u) (fun(y:av)=>put (put (emp) 1 (.val (.int .i64 (u:Int)))) 2 (.box [.slice G.Ar (m+1) G.cr,G.bv])) (fun(y:av) H'=>∃M1 B1,cA iG H' G (m+1) W m M1 B1∧Heap.le (rem H G.gs) (rem H' G.gs)∧Φ y∧gW M1 B1 y m W∧∀i,i<m→B1 i<W) (x) (Fw) ar (⟨M,B,h,.refl _,hx,hr,hB⟩) ?_);rintro y H1 ⟨M1,B1,h1,fD,tu,iS,zU⟩;have nF:=yh tu iS;refine aE (ae (aa 2 rfl (aC rfl rfl (akf h1 (by omega) (fun j hj=>nF m (by omega) j (by omega)) hN (by omega) hW) ?_)));rintro _ H2 ⟨z,rfl,fN,hE⟩;have h2:=h1.kept fN;refine aa 1 rfl (ab [1,2,5] ?_);refine ao (ae (aa 2 rfl (ab [1,2,5,11] ?_)));refine aD rfl (fun hb=> ?_) (fun hb=> ?_)
 ·
  have hb:z<0:=by simpa using hb
  obtain⟨_,fT⟩:z = -1∧∀j,j<u→0≤M1 m j:=by
   rcases hE with h9 | ⟨s,h9,_⟩
   ·exact h9
   ·omega
  refine ae (aa 1 rfl (ab [4] ?_));refine aB ⟨.inr rfl,_,.tmp rfl (.nil),?_⟩;exact⟨M1,B1,true,y,rfl,h2,fD.trans fN.le,tu,iS,zU,fun _=>fT,(fun h9=>by cases h9)⟩
 ·
  have hb:¬z<0:=by simpa using hb
  obtain⟨s,rfl,IN,mq,CA⟩:∃s:Nat,z=(s:Int)∧s<u∧M1 m s<0∧∀j,j<s→0≤M1 m j:=by
   rcases hE with ⟨h9,_⟩ | h9
   ·omega
   ·exact h9
  refine az (ah [1,2,5] rfl ?_);refine ae (aa 2 rfl (aC rfl rfl (akg h2 (by omega) (show s<W by omega) (fun i hi j hj=>nF i (by omega) j hj) hN (by omega) hW) ?_));rintro _ H3 ⟨z3,rfl,dz,IP⟩;have h3:=h2.kept dz;refine aa 1 rfl (ab [1,2,5,6] ?_);refine ao (ae (aa 2 rfl (ab [1,2,5,6,16] ?_)));refine aD rfl (fun hb=> ?_) (fun hb=> ?_)
  ·
   have hb:z3<0:=by simpa using hb
   have fT:∀i,i<m→M1 i s≤0:=by
    rcases IP with h9 | ⟨r,h9,_⟩
    ·exact h9.2
    ·omega
   refine ae (aa 1 rfl (ab [4] ?_));refine aB ⟨.inr rfl,_,.tmp rfl (.nil),?_⟩;exact⟨M1,B1,false,y,rfl,h3,(fD.trans fN.le).trans dz.le,tu,iS,zU,(fun h9=>by cases h9),fun _=>⟨s,IN,mq,fT⟩⟩
  have hb:¬z3<0:=by simpa using hb
  obtain⟨r,rfl,kz,cW,q,hL⟩:∃r:Nat,z3=(r:Int)∧r<m∧0<M1 r s∧∃q,Lst M1 B1 (W-1) s m r q:=by
   rcases IP with ⟨h9,_⟩ | h9
   ·omega
   ·exact h9
  have jM:=iS.Gl (by omega) IN mq CA kz cW hL;have sq:=yh (dG _ _ _ tu jM) (iS.pivot (M':=lZ M1 r s) kz (by omega) fun _ _ _ _=>rfl);refine az (ah [1,2,5,6] rfl ?_);refine aA rfl (aa 3 rfl (aC rfl rfl (aaG h3 kz (by omega) (show s<W by omega) (by grind) nF sq hN (by omega) hW) ?_));rintro v4 H4 ⟨M4,h4,hM4,ku⟩;refine au ?_
  exact⟨y.pivot r s,⟨r,s,jM,rfl⟩,ar,M4,_,h4,((fD.trans fN.le).trans dz.le).trans ku,dG _ _ _ tu jM,iS.pivot kz (by omega) hM4,fun i hi=>by
   show (if i=r then s else B1 i)<W
   split
   ·omega
   ·exact zU i hi⟩
end Go.aq
namespace Go.aq
open Go.Proofs Num Lp
end Go.aq
namespace Go.aq
open Go.Proofs Num Lp
theorem szc{n s N:Nat}(hn:n≤1000)(hs:s≤N+2)(hN:N≤400000000){k:Nat}(hk:k≤n):((k*(2*s+1)+1:Nat):Int)≤900000000000:=by
 have h1:k*(2*s+1)≤1000*(2*s+1):=Nat.mul_le_mul_right _ (by omega)
 omega
theorem MV:aN 0≤1:=by decide
theorem aaP{H:Heap}{u v:Value}{l1 l2:List Rat}{N:Nat}(hu:aQ (dI N) 3 H u l1)(hv:aQ (dI N) 3 H v l2)(hl:l1.length=l2.length)(hn:l1.length≤1000)(hN:N≤400000000):
 Fn Tryz.prog 56 #[u,v] H (Iv H (cJ l1.length (fn l1) (fn l2))):=by
 have h1:=hu.EH
 have h2:=hv.EH
 obtain⟨A,c,ys,rfl,hc,hr,ix⟩:=hu
 obtain⟨A',c',ys',rfl,jw,dR,akh⟩:=hv
 have DP:=Wv (f:=fn l1) (g:=fn l2) (s:=N+2) (n:=l1.length) (fun k hk=>⟨Pr h1 hk,Pr h2 (by omega)⟩)
 rw[←hl];refine aZ (args:=[_,_]) Tryz.func56 rfl rfl Tryz.ntmps56 rfl rfl fun w0=> ?_;refine ah [0,1] rfl ?_;refine ae (bh bQ rfl (ab [0,1,4] ?_));refine ae (aC rfl rfl ((oU (n:=0) (by decide) (by decide)).rc) ?_);rintro _ H1 ⟨bx,t1,rfl,b8⟩;rw[show ((0:Int):Rat)=0 from rfl]at b8;refine bh bQ rfl ?_;obtain⟨ti,aj,ak⟩:=aU;refine aH (.inl ⟨rfl,rfl⟩) rfl rfl rfl aj ak rfl rfl rfl (ab [0,1,4,5] ?_);refine ao (ae (aa 1 rfl (ab [0,1,4,5,6] ?_)));refine aE (gn (fun(i:Nat)(t:RC)=>l1.length-i) (fun(i:Nat)(t:RC)=>put (put (put (put (put (emp) 0 (.val (.slice A l1.length c))) 1 (.val ((.slice A' l1.length c')))) 4 (.box [.bool false,.slice none 0 0,.slice none 0 0])) 5 (.box [.bool t.f,.slice t.A1 t.m1 t.c1,.slice t.A2 t.m2 t.c2])) 6 (.val (.int .i64 (i:Int)))) (fun(i:Nat)(t:RC) H'=>Heap.le H H'∧bH H' t.v (cJ i (fn l1) (fn l2))∧i≤l1.length) 0 t1 (⟨bx,b8,Nat.zero_le _⟩) ar ?_);rintro i t H2 ⟨cD,bU,hi⟩;refine ao (ae (aa 5 rfl (UQ rfl rfl ?_)));rw[show (if ((l1.length:Nat):Int)<((l1.length:Nat):Int)then((l1.length:Nat):Int)else((l1.length:Nat):Int))=((l1.length:Nat):Int)from if_neg (by omega)];refine aa 1 rfl (ab [0,1,4,5,6,14] ?_)
 refine aD rfl (fun hb=> ?_) (fun hb=> ?_)
 ·
  have aP:i<l1.length:=by simpa using hb
  obtain⟨q,ie⟩:∃q,l1[i]? = some q:=⟨_,List.getElem?_eq_getElem aP⟩;obtain⟨q2,aaQ⟩:∃q,l2[i]? = some q:=⟨_,List.getElem?_eq_getElem (by omega)⟩;obtain⟨g5,B1,k1,e1,B2,k2,e2,SO,CH,I1⟩:=aQ.Cj ix ie;obtain⟨g6,D1,n1,d1,D2,n2,d2,SP,wg,SQ⟩:=aQ.Cj akh aaQ;have iV:=oN ie;have jK:=oN aaQ;have nF:=DP i hi;have pG:=szc (s:=N+2) hn (Nat.le_refl _) hN hi;have sq:=vx q q2;have I3:=CH.size;have uc:=wg.size;refine az (ah [0,1,4,5,6] rfl ?_);refine ao (aE (eo .bJ [0,1,2,3,4,5,6,7,8,9,10,11] follows (by kernel_rfl) ?_));refine aa 3 rfl (cj (vs:=[.bool g5,.slice B1 k1 e1,.slice B2 k2 e2]) ag rfl rfl rfl rfl (hr.le cD) rfl (by decide) I1 (by omega) (by omega) fun _=>(aa 2 rfl (cj (vs:=[.bool g6,.slice D1 n1 d1,.slice D2 n2 d2]) ag rfl rfl rfl rfl (dR.le cD) rfl (by decide) SQ (by omega) (by omega) fun _=>(aY rfl rfl ((Lx (CH.le cD) (wg.le cD) (by omega)).rc) (fun _ _ h=>by first | exact h.le | exact h.1) ?_))));rintro _ H3 ⟨eF,t3,rfl,iw⟩;refine aY rfl rfl ((P3 (N:=900000000000) (((bH.raw bU).mono (by unfold cJ;omega)).le eF) ((bH.raw iw).mono (by omega)) (by decide)).rc) (fun _ _ h=>by first | exact h.le | exact h.1) ?_;rintro _ H4 ⟨cM,t4,rfl,ct⟩;rw[←iV,←jK,show cJ i (fn l1) (fn l2)+fn l1 i*fn l2 i=cJ (i+1) (fn l1) (fn l2)from rfl]at ct
  obtain⟨ti,aj,ak⟩:=aU;refine aH (.inl ⟨rfl,rfl⟩) rfl rfl rfl aj ak rfl rfl rfl (au (ah [0,1,4,5,6] rfl ?_));refine aA rfl (aa 1 rfl (aF rfl rfl ⟨by omega,by omega⟩ (aa 1 rfl (au ?_))));exact⟨i+1,t4,by omega,ar,cD.trans (eF.trans cM),ct,by omega⟩
 ·
  have hb:l1.length≤i:=by simpa using hb
  obtain rfl:i=l1.length:=by omega
  refine aX (ah [4,5] rfl ?_);refine ae (vr 1 ?_);obtain⟨ti,aj,ak⟩:=aU;refine aH (.inl ⟨rfl,rfl⟩) rfl rfl rfl aj ak rfl rfl rfl (ab [4] ?_);obtain⟨bP,aL,aM⟩:=aU;refine aB ⟨.inr rfl,_,.agg rfl Tryz.underlying38 aL aM (.nil),?_⟩;exact⟨cD,t,rfl,bU⟩
end Go.aq
namespace Go.aq
open Go.Proofs Num Lp
end Go.aq
namespace Go.aq
open Go.Proofs Num Lp
end Go.aq
namespace Go.aq
open Go.Proofs Num Lp
def fw(r:List Rat×Int×Rat):List Rat×Int×Rat:=if kD r.2.2 r.2.1=1 then r else(r.1.map (fun q=> -q),km r.2.1 (-1),-r.2.2)
def aki(N:Nat)(r:List Rat×Int×Rat)(H:Heap)(v:Value)(H':Heap):Prop:=Heap.le H H'∧∃A0 c0 f A1 m1 c1 A2 m2 c2,v = .agg #[.slice A0 r.1.length c0,.int .i64 (fw r).2.1,.bool f,.slice A1 m1 c1,.slice A2 m2 c2]∧fK (N+2) H' [.slice A0 r.1.length c0,.int .i64 (fw r).2.1,.bool f,.slice A1 m1 c1,.slice A2 m2 c2] (fw r)
theorem fK.mono{N M:Nat}{H:Heap}{vs:List Value}{r:List Rat×Int×Rat}(h:fK N H vs r)(hl:N≤M):fK M H vs r:=by
 obtain⟨c,f,u,w,h1,h2,h3⟩:=h
 exact⟨c,f,u,w,h1,h2.mono fun vs q a=>dI.mono a hl,h3.mono hl⟩
theorem MW{r:List Rat×Int×Rat}(h:0<r.2.2∨(r.2.2=0∧r.2.1≠3)):fw r=r:=by
 have h1:¬(r.2.2<0∨(r.2.2=0∧r.2.1=3)):=by grind
 unfold fw kD;rw[if_neg h1,if_pos rfl]
theorem aaR{r:List Rat×Int×Rat}(h:¬(0<r.2.2∨(r.2.2=0∧r.2.1≠3))):fw r=(r.1.map (fun q=> -q),km r.2.1 (-1),-r.2.2):=by
 have h1:r.2.2<0∨(r.2.2=0∧r.2.1=3):=by grind
 unfold fw kD;rw[if_pos h1,if_neg (by decide)]
theorem akj{l:List Rat}{f:Rat→Rat}{j:Nat}{q:Rat}(h:l[j]? = some q):(l.take (j+1)).map f=(l.take j).map f ++ [f q]:=by
 rw[List.take_add_one,h,List.map_append];rfl
theorem akk{H:Heap}{r:List Rat×Int×Rat}{N:Nat}{A0:Option Addr}{c0:Nat}{f:Bool}{A1:Option Addr}{m1 c1:Nat}{A2:Option Addr}{m2 c2:Nat}(hr:fK N H [.slice A0 r.1.length c0,.int .i64 r.2.1,.bool f,.slice A1 m1 c1,.slice A2 m2 c2] r)(hN:N≤400000000)(pQ:r.1.length≤1000)(kG:r.2.1=1∨r.2.1=2∨r.2.1=3):
 Fn Tryz.prog 96 #[.agg #[.slice A0 r.1.length c0,.int .i64 r.2.1,.bool f,.slice A1 m1 c1,.slice A2 m2 c2]] H (aki N r H):=by
 have pJ:cT H (.agg #[.bool f,.slice A1 m1 c1,.slice A2 m2 c2]) r.2.2 N:=fK.bound hr
 have oy:aQ (dI N) 3 H (.slice A0 r.1.length c0) r.1:=fK.bN hr
 obtain⟨A0',c0',x0,e0,mW,wz,Kl⟩:=id oy
 cases e0
 have hbz:=pJ.size
 have Li:=oy.EH;refine aZ (args:=[_]) Tryz.func96 rfl rfl Tryz.ntmps96 rfl rfl fun w0=> ?_;refine ah [0] rfl ?_;refine ae (bY rfl rfl (bh jx rfl (ab [1,2] ?_)));refine ae (aa 2 rfl (aC rfl rfl (xK pJ (by omega)) ?_));rintro _ H1 ⟨bx,rfl⟩;refine aa 1 rfl (ab [1,2,3] ?_);refine kM (fun(b:Bool)=>put (put (emp) 1 (.box [.slice A0 r.1.length c0,.int .i64 r.2.1,.bool f,.slice A1 m1 c1,.slice A2 m2 c2])) 2 (.box [.slice none 0 0,.int .i64 0,.bool false,.slice none 0 0,.slice none 0 0])) (fun(b:Bool) H'=>H'=H1∧fw r=(r.1.map (fun q=> -q),km r.2.1 (-1),-r.2.2)) ?_ ?_
 ·
  by_cases g1:0<r.2.2
  ·
   skip
   refine ae (aa 1 rfl (aG true rfl rfl (ov (D4.2 g1)) (aa 9 rfl (ab [1,2,19] ?_))));refine cK rfl (ae (vr 1 ?_));obtain⟨ti,aj,ak⟩:=nB;refine aH (.inl ⟨rfl,rfl⟩) rfl rfl rfl aj ak rfl rfl rfl (ab [2] ?_);obtain⟨bP,aL,aM⟩:=nB;refine aB ⟨.inr rfl,_,.agg rfl Tryz.underlying80 aL aM (.nil),?_⟩;exact⟨bx,A0,c0,f,A1,m1,c1,A2,m2,c2,by rw[MW (by grind)];rfl,by rw[MW (by grind)];exact jC _ _ _ _ _ bx (hr.mono (by omega))⟩
  ·
   skip
   by_cases g2:r.2.2=0
   ·
    skip
    by_cases g3:r.2.1=3
    ·
     skip
     refine ae (aa 1 rfl (aG false rfl rfl (kt (by have:=mt D4.1 g1;omega)) ?_));refine aa 2 rfl (aG true rfl rfl (iL (xA.2 g2)) (aa 3 rfl (aG false rfl rfl (vi g3) (aa 2 rfl (ab [1,2,19] ?_)))));refine dh rfl (az ?_);exact⟨true,ar,rfl,aaR (by grind)⟩
    skip
    refine ae (aa 1 rfl (aG false rfl rfl (kt (by have:=mt D4.1 g1;omega)) ?_));refine aa 2 rfl (aG true rfl rfl (iL (xA.2 g2)) (aa 3 rfl (aG true rfl rfl (vh g3) (aa 2 rfl (ab [1,2,19] ?_)))));refine cK rfl (ae (vr 1 ?_));obtain⟨ti,aj,ak⟩:=nB;refine aH (.inl ⟨rfl,rfl⟩) rfl rfl rfl aj ak rfl rfl rfl (ab [2] ?_);obtain⟨bP,aL,aM⟩:=nB;refine aB ⟨.inr rfl,_,.agg rfl Tryz.underlying80 aL aM (.nil),?_⟩;exact⟨bx,A0,c0,f,A1,m1,c1,A2,m2,c2,by rw[MW (by grind)];rfl,by rw[MW (by grind)];exact jC _ _ _ _ _ bx (hr.mono (by omega))⟩
   skip
   refine ae (aa 1 rfl (aG false rfl rfl (kt (by have:=mt D4.1 g1;omega)) ?_));refine aa 2 rfl (aG false rfl rfl (ks (fun h=>g2 (xA.1 h))) (aa 6 rfl (ab [1,2,19] ?_)));refine dh rfl (az ?_);exact⟨true,ar,rfl,aaR (by grind)⟩
 ·
  rintro b H3 ⟨e3,hp⟩;rw[e3];clear e3 H3;refine bM .bJ [0,1,2,3,4,5,6,7] follows (by kernel_rfl) ?_;refine aa 4 rfl (aY rfl rfl ((BU (pJ.le bx) (by omega)).rc) (fun _ _ h=>by first | exact h.le | exact h.1) ?_);rintro _ H2 ⟨cD,t4,rfl,ct⟩;have kV:=bx.trans cD;refine cL ag rfl jx rfl rfl (bh jx rfl ?_);obtain⟨ti,aj,ak⟩:=nB;refine aH (.inl ⟨rfl,rfl⟩) rfl rfl rfl aj ak rfl rfl rfl (ab [1,2,4] ?_);refine kM (fun(rl:Int)=>put (put (put (emp) 1 (.box [.slice A0 r.1.length c0,.int .i64 r.2.1,.bool f,.slice A1 m1 c1,.slice A2 m2 c2])) 2 (.box [.slice none 0 0,.int .i64 0,.bool false,.slice none 0 0,.slice none 0 0])) 4 (.box [.slice none 0 0,.int .i64 rl,.bool t4.f,.slice t4.A1 t4.m1 t4.c1,.slice t4.A2 t4.m2 t4.c2])) (fun(rl:Int) H'=>H'=H2∧rl=km r.2.1 (-1)) ?_ ?_
  ·
   refine ae (aa 3 rfl (ab [1,2,4,29] ?_));refine aD rfl (fun hb=> ?_) (fun hb=> ?_)
   ·
    have de:¬r.2.1=2:=by simpa using hb
    refine aA rfl (aa 2 rfl (cQ rfl rfl ⟨by omega,by omega⟩ (vr 1 ?_)));obtain⟨ti,aj,ak⟩:=u6;refine aH (.inr rfl) rfl rfl rfl aj ak rfl rfl rfl (au ?_);exact⟨_,ar,rfl,by unfold km;rw[if_neg (by decide),if_neg de]⟩
   have de:r.2.1=2:=by simpa using hb
   refine az ?_;exact⟨_,ar,rfl,by unfold km;rw[if_neg (by decide),if_pos de];exact de⟩
  rintro rl H3 ⟨e3,oR⟩;rw[e3];clear e3 H3;refine ao (ae (aa 4 rfl (ab [1,2,4,36,37] ?_)));refine aE (fB (fun(j:Nat)(w:Value)(MX:List Value)=>r.1.length-j) (fun(j:Nat)(w:Value)(MX:List Value)=>put (put (put (put (put (emp) 1 (.box [.slice A0 r.1.length c0,.int .i64 r.2.1,.bool f,.slice A1 m1 c1,.slice A2 m2 c2])) 2 (.box [.slice none 0 0,.int .i64 0,.bool false,.slice none 0 0,.slice none 0 0])) 4 (.box [w,.int .i64 rl,.bool t4.f,.slice t4.A1 t4.m1 t4.c1,.slice t4.A2 t4.m2 t4.c2])) 36 (.val (.int .i64 (r.1.length:Int)))) 37 (.val (.int .i64 (j:Int)))) (fun(j:Nat)(w:Value)(MX:List Value) H'=>dU bV 38 3 H2 H' w ((r.1.take j).map (fun q=> -q)) MX∧j≤r.1.length) 0 (.slice none 0 0) [] (⟨xR H2,Nat.zero_le _⟩) ar ?_);rintro j w MX H4 ⟨hG,hj⟩;obtain⟨F1,f1,rfl⟩:=hG.form
  have pd:((r.1.take j).map (fun q=> -q)).length=j:=by simp;omega
  refine ae (aa 1 rfl (ab [1,2,4,36,37,38] ?_));refine ao (aD rfl (fun hb=> ?_) (fun hb=> ?_))
  ·
   have gN:j<r.1.length:=by simpa using hb
   obtain⟨q,ie⟩:∃q,r.1[j]? = some q:=⟨_,List.getElem?_eq_getElem gN⟩;obtain⟨g6,G1,n1,o1,G2,n2,o2,SP,wg,SQ⟩:=aQ.Cj Kl ie;refine az (ah [1,2,4,36,37] rfl ?_);refine ao (aE (ae (aa 2 rfl (ab [1,2,4,5,36,37] ?_))));refine eo .bJ [0,1,2,3,4,5,6,7,8,9,10,11] follows (by kernel_rfl) ?_;refine aa 5 rfl (cj (vs:=[.bool g6,.slice G1 n1 o1,.slice G2 n2 o2]) ag rfl rfl rfl rfl (wz.le (kV.trans hG.le)) rfl (by decide) SQ (by omega) (by omega) fun _=>(aY rfl rfl (hG.call (BU (wg.le (kV.trans hG.base)) (by omega))) (fun _ _ h=>h.le fun _ _ h=>h.1) ?_));rintro _ H6 nv;have gU:=hG.kX cX nv fun _ _ h=>h.1;obtain⟨⟨_,oV⟩,_⟩:=nv;obtain⟨t6,rfl⟩:=oV.rc;refine cI Tryz.underlying28 bQ rfl rfl rfl rfl rfl rfl rfl ?_;intro gc kB;have aaS:=gU.ins cX (whole (dS [t6.v]) 38) kB;refine dW Tryz.underlying28 bQ rfl rfl aaS.own (ea _ _ _ _ _ _) rfl (zK _ _ _ _ _ _ _) (by rw[pd];omega) (by rw[pd];omega) ?_;intro v7 H7 re;have l0:=aaS.append cX (k:=[-q]) (by simp) re (iE (cX _ _ _ _ (pK _ (Heap.bG _ kB)) (show bV _ [_,_,_] _ from oV)) rfl);obtain⟨F7,f7,rfl⟩:=l0.form;refine vr 1 ?_;obtain⟨ti,aj,ak⟩:=J5;refine aH (.inr rfl) rfl rfl rfl aj ak rfl rfl rfl ?_
   refine au (ah [1,2,4,36,37] rfl ?_);refine aA rfl (aF rfl rfl ⟨by omega,by omega⟩ (aa 1 rfl (au ?_)));exact⟨j+1,_,_,by omega,ar,by rw[akj ie];exact l0,by omega⟩
  have gN:r.1.length≤j:=by simpa using hb
  obtain rfl:j=r.1.length:=by omega
  rw[List.take_length]at hG pd;have cM:=kV.trans hG.le
  have j7:=(hG.sl cX).zL (N:=N+2) (fun q hq=>by
   obtain⟨q',tt,rfl⟩:=List.mem_map.1 hq
   rw[wZ];exact Li q' tt)
  rw[pd]at j7;refine aX (ah [2,4] rfl ?_);refine ae (vr 1 ?_);obtain⟨ti,aj,ak⟩:=nB;refine aH (.inl ⟨rfl,rfl⟩) rfl rfl rfl aj ak rfl rfl rfl (ab [2] ?_);obtain⟨bP,aL,aM⟩:=nB;refine aB ⟨.inr rfl,_,.agg rfl Tryz.underlying80 aL aM (.nil),?_⟩
  skip
  simp only[List.take_length,pd]
  exact⟨cM,F1,f1,t4.f,t4.A1,t4.m1,t4.c1,t4.A2,t4.m2,t4.c2,by rw[hp,oR];rfl,by rw[hp,←oR];exact⟨_,_,_,_,rfl,j7,((bH.raw ct).mono (by rw[wZ];omega)).le hG.le⟩⟩
end Go.aq
namespace Go.aq
open Go.Proofs Num Lp
theorem yi{α:Type}{l:List α}{k n:Nat}{a:α}(h:l[k]? = some a)(hk:k<n):(fill l n)[k]? = some (some a):=by
 unfold fill
 have hl:=(List.getElem?_eq_some_iff.1 h).1
 rw[List.getElem?_append_left (by rw[List.length_map,List.length_take];omega),List.getElem?_map,List.getElem?_take,if_pos hk,h];rfl
theorem akl{f:Nat→Rat}{W k:Nat}{q:Rat}(hk:k<W):(fill (aK f W) (k+1)).set k (some q)=fill (aK (bZ f k q) W) (k+1):=by
 apply List.ext_getElem?
 intro i
 have hl:=mX (l:=aK f W) (k:=k+1) (by rw[bB];omega)
 have kJ:=mX (l:=aK (bZ f k q) W) (k:=k+1) (by rw[bB];omega)
 rw[bB]at hl kJ
 by_cases hi:i<W
 ·by_cases e:i=k
  ·subst e
   rw[List.getElem?_set_self (by omega),yi (dM hi) (Nat.lt_succ_self _),qX]
  ·rw[List.getElem?_set_ne (fun e'=>e e'.symm)]
   by_cases h2:i<k+1
   ·rw[yi (dM hi) h2,yi (dM hi) h2,pa e]
   ·unfold fill
    rw[List.getElem?_append_right (by simp;omega),List.getElem?_append_right (by simp;omega)]
    simp[bB]
 ·rw[List.getElem?_eq_none (by rw[List.length_set];omega),List.getElem?_eq_none (by omega)]
theorem akm{W k n:Nat}{xs:List Value}{f:Nat→Rat}(h:p8 W xs f n)(hk:k<n)(hn:n≤W):∃a d:Int,fu [.int .i64 a,.int .i64 d] (f k)∧∀(j:Nat)(v:Value),[.int .i64 a,.int .i64 d][j]? = some v→xs[k*2+j]? = some v:=by
 have h:bA _ _ _ _:=h
 obtain⟨vs,_,h2,h3⟩:=h.get (yi (dM (f:=f) (n:=W) (show k<W by omega)) hk)
 have h2:fu vs (f k):=h2
 obtain⟨a,d,rfl,h4⟩:=id h2
 exact⟨a,d,h2,h3⟩
theorem akn{W k:Nat}{xs vs:List Value}{f:Nat→Rat}{q:Rat}(h:p8 W xs f (k+1))(hk:k<W)(hv:fu vs q):p8 W (aJ xs (k*2) vs) (bZ f k q) (k+1):=by
 show bA _ _ _ _
 rw[←akl hk]
 have h:bA _ _ _ _:=h
 exact h.set (by rw[mX (by rw[bB];omega),bB];exact hk) (show ic q3 _ vs (some q)from hv) (by obtain⟨a,b,rfl,_⟩:=hv;rfl)
theorem ako{W k:Nat}{xs:List Value}{f f':Nat→Rat}(h:p8 W xs f k)(he:∀j,j<k→f' j=f j):p8 W xs f' k:=by
 have h:bA _ _ _ _:=h
 refine⟨by rw[h.len];simp[fill,bB],fun i a ha=> ?_⟩
 unfold fill at ha
 by_cases hi:i<((aK f' W).take k).length
 ·rw[List.getElem?_append_left (by rw[List.length_map];exact hi),List.getElem?_map,List.getElem?_take]at ha
  rw[List.length_take,bB]at hi
  rw[if_pos (by omega),dM (by omega)]at ha
  cases ha
  have h2:=h.at_ i _ (yi (dM (f:=f) (n:=W) (show i<W by omega)) (show i<k by omega))
  rw[he i (by omega)];exact h2
 ·rw[List.getElem?_append_right (by rw[List.length_map];omega)]at ha
  have:=(List.getElem?_eq_some_iff.1 ha).2
  rw[List.getElem_replicate]at this
  subst this;trivial
structure QY(o:Bool)(K H:Heap)(g:Nat)(G:GG)(R W m:Nat)(M:Nat→Nat→Rat)(B:Nat→Nat)(z:Nat)(f:Nat→Rat)(k:Nat):Prop where
 q:QV o H g (G.on (z::G.top)) R W m M B
 row:∃xs,H z=some ⟨xs,W*2,138,true⟩∧p8 W xs f k
 ne:z≠g
 le:Heap.le K (rem H (G.on (z::G.top)).gs)
section
variable {o o':Bool} {K H H':Heap} {g:Nat} {G:GG} {R W m z k:Nat} {M:Nat→Nat→Rat} {B:Nat→Nat} {f:Nat→Rat}
theorem QY.put(h:QY o K H g G R W m M B z f k)(ht:fR (G.on (z::G.top)).gs g H H')(iB:H' g=some ⟨[.slice G.Ar R G.cr,G.bv,.bool o'],3,135,true⟩){xs:List Value}{f':Nat→Rat}{k':Nat}(ix:p8 W xs f' k'):QY o' K (ins H' z ⟨xs,W*2,138,true⟩) g G R W m M B z f' k':=by
 have h1:=h.q.uR ht iB
 have hm:z∈(G.on (z::G.top)).gs:=QZ.mJ
 have hT:fR (G.on (z::G.top)).gs z H' (ins H' z ⟨xs,W*2,138,true⟩):=((Kept.refl _ _).iF z).ins hm _
 exact⟨⟨h1.cY.Cp (List.mem_cons_self ..) hT (by rw[bn];simp),h1.gt,by rw[bg _ _ (Ne.symm h.ne)];exact h1.st⟩,⟨_,bn _ _ _,ix⟩,h.ne,h.le.trans (ht.le.trans hT.le)⟩
end
def rf(p:Prg)(M:Nat→Nat→Rat)(k i:Nat):Rat:=if k<p.u∨k=p.w then-a7 i (fun q=>if p.u≤p.unit q then M q k else 0)else 0
theorem aaT{p:Prg}{M:Nat→Nat→Rat}{k:Nat}:rf p M k 0=0:=by
 unfold rf;split
 ·show -0=(0:Rat);grind
 ·rfl
theorem aaU{p:Prg}{M:Nat→Nat→Rat}{k i:Nat}(h:p.u≤p.unit i∧(k<p.u∨k=p.w)):rf p M k (i+1)=rf p M k i-M i k:=by
 unfold rf;rw[if_pos h.2,if_pos h.2,gq,if_pos h.1];grind
theorem aaV{p:Prg}{M:Nat→Nat→Rat}{k i:Nat}(h:¬(p.u≤p.unit i∧(k<p.u∨k=p.w))):rf p M k (i+1)=rf p M k i:=by
 unfold rf
 by_cases h2:k<p.u∨k=p.w
 ·rw[if_pos h2,if_pos h2,gq,if_neg (fun h1=>h ⟨h1,h2⟩)];grind
 ·rw[if_neg h2,if_neg h2]
theorem aaW{p:Prg}{M:Nat→Nat→Rat}{k:Nat}:rf p M k p.lp.m=ra p M k:=rfl
def wid(p:Prg)(i:Nat):Nat:=if i=0 then p.u+1 else p.w+1
theorem akp{p:Prg}:wid p p.lp.m=p.w+1:=by
 unfold wid
 split
 ·rename_i h
  have e:p.w=p.u:=by show a8 _ _ _ p.lp.m=_;rw[h];rfl
  omega
 ·rfl
theorem akq(l:List Rat):aK (fn l) l.length=l:=by
 apply List.ext_getElem?
 intro j
 by_cases hj:j<l.length
 ·rw[dM hj,List.getElem?_eq_getElem hj,oN (List.getElem?_eq_getElem hj)]
 ·rw[List.getElem?_eq_none (by rw[bB];omega),List.getElem?_eq_none (by omega)]
theorem bV.rc{H:Heap}{vs:List Value}{q:Rat}(h:bV H vs q):∃t:RC,vs = [.bool t.f,.slice t.A1 t.m1 t.c1,.slice t.A2 t.m2 t.c2]∧bH H t.v q:=by
 obtain⟨t,e⟩:=bH.rc (show bH H (.agg vs.toArray) q from h)
 have h2:=DS e
 refine⟨t,h2,?_⟩
 rw[←e];exact h
theorem dI.rc{H:Heap}{vs:List Value}{q:Rat}{N:Nat}(h:dI N H vs q):∃t:RC,vs = [.bool t.f,.slice t.A1 t.m1 t.c1,.slice t.A2 t.m2 t.c2]∧cT H t.v q N:=by
 obtain⟨f,A,m,c,A',m',c',rfl⟩:=dI.cells h
 exact⟨⟨f,A,m,c,A',m',c'⟩,rfl,h⟩
theorem QV.s9{o:Bool}{H:Heap}{g:Nat}{G:GG}{R W m:Nat}{M:Nat→Nat→Rat}{B:Nat→Nat}(h:QV o H g G R W m M B):∃Ab cb,G.bv = .slice Ab m cb∧∀{o' H' R' M' B'},QV o' H' g G R' W m M' B'→∀i,i<m→Rd H' Ab (eN B' m):=by
 rcases h.cY.basis with ⟨h1,h2,h3⟩ | ⟨gb,cb,sz,h1,h2,h3⟩
 ·exact⟨none,0,by rw[h3,h1],fun _ i hi=>by omega⟩
 ·refine⟨_,cb,h2,fun h' i hi=> ?_⟩
  rcases h'.cY.basis with ⟨k1,k2,k3⟩ | ⟨Cv,ES,fk,k1,k2,k3⟩
  ·omega
  ·rw[h1]at k1;cases k1;exact dQ k3
theorem Rd.at{H:Heap}{ad:Addr}{xs:List Value}(h:Rd H (some ad) xs):∀(i:Nat)(v:Value),xs[i]? = some v→cell H (ad.add i)=some v:=fun i v hv=>by
 obtain⟨JW,h1,h2⟩:=h i v hv
 cases h1;exact h2
theorem QZ.iF{o:Bool}{S H:Heap}{g:Nat}{G:GG}{R W m z:Nat}{M:Nat→Nat→Rat}{B:Nat→Nat}{f:Nat→Rat}(h:QZ o (rem S G.gs) S H g G R W m M B z f):fR G.gs g S H:=⟨h.le.trans (OZ H z G.gs),h.same⟩
theorem MY{H H':Heap}{v v':Value}{e n:Nat}{rg:List (Nat×Nat)}{W z c:Nat}(h:App H v e 1 n (iR rg W ++ [Value.slice (some ⟨z,0,none⟩) W c]) v' H'):App H v e 1 n (iR (rg ++ [(z,c)]) W) v' H':=by
 unfold iR at h⊢;rw[List.map_append];exact h
theorem aaX{rg:List (Nat×Nat)}{W z c:Nat}:iR rg W++dS [Value.slice (some ⟨z,0,none⟩) W c]=iR (rg ++ [(z,c)]) W:=by
 unfold iR;rw[List.map_append];rfl
theorem akr{B:Nat→Nat}{m:Nat}:∀u,u∈eN B m→u.oneCell'=true:=fun u hu=>by
 obtain⟨i,_,rfl⟩:=List.mem_map.1 hu
 rfl
theorem aaY{n d:Int}:∀u,u∈dS [Value.agg #[.int .i64 n,.int .i64 d]]→u.oneCell'=true:=fun u hu=>by
 have hu:u∈[Value.int .i64 n,.int .i64 d]:=hu
 simp only[List.mem_cons,List.not_mem_nil,or_false]at hu
 rcases hu with rfl | rfl <;> rfl
theorem QV.CF{o:Bool}{H:Heap}{g:Nat}{G:GG}{R W m:Nat}{M M':Nat→Nat→Rat}{B:Nat→Nat}(h:QV o H g G R W m M B)(hM:∀i,i<R→∀j,j<W→M' i j=M i j):QV o H g G R W m M' B:=⟨h.cY.congr hM fun _ _=>rfl,h.gt,h.st⟩
theorem aks{H:Heap}{bv:Value}{B:Nat→Nat}{M:Nat→Nat→Rat}{m W g:Nat}(ho:bR H bv 3 1 m (eN B m))(hg:H g=none):∃G:GG,(G.top = [g]∧G.gs=g::aw bv)∧QV false (ins H g ⟨[.slice none 0 0,bv,.bool false],3,135,true⟩) g G 0 W m M B:=by
 have hn:∀q,q∈aw bv→q≠g:=fun q hq e=>by
  obtain⟨en,he⟩:=ho.block (cF.1 hq)
  rw[e,hg]at he;cases he
 refine⟨⟨[g],[],aw bv,bv,[],none,0⟩,⟨rfl,?_⟩,⟨⟨?_,fun q hq=> ?_,rfl,rfl,kL _ _ _,fun i p hp=> ?_,?_⟩,List.mem_singleton.2 rfl,bn _ _ _⟩⟩
 ·show [g]++([]++(aw bv ++ []))=_
  simp
 ·show ([g]++([]++(aw bv ++ []))).Nodup
  simp only[List.nil_append,List.append_nil,List.singleton_append]
  exact List.nodup_cons.2 ⟨fun hm=>hn g hm rfl,R0 _⟩
 ·rw[List.mem_singleton.1 hq,bn];simp
 ·have hp:([]:List (Nat×Nat))[i]? = some p:=hp
  simp at hp
 ·rcases ho.2 with ⟨h1,h2⟩ | ⟨gb,cap,h1,h2,_⟩
  ·exact .inl ⟨h2,by show aw bv = [];rw[h1];rfl,h1⟩
  ·refine .inr ⟨gb,cap,cap*1,by show aw bv = [gb];rw[h1];rfl,h1,?_⟩
   rw[bg _ _ (hn gb (by rw[h1];exact List.mem_singleton.2 rfl))];exact h2
theorem akt{H1 H2:Heap}{bv:Value}{B:Nat→Nat}{M:Nat→Nat→Rat}{m W g:Nat}{G:GG}{xs:List Value}(h:QV false (ins H2 g ⟨[.slice none 0 0,bv,.bool false],3,135,true⟩) g G 0 W m M B)(ha:App H1 (.slice none 0 0) 3 1 m xs bv H2)(hg:H2 g=none)(hG:G.top = [g]∧G.gs=g::aw bv):Heap.le H1 (rem (ins H2 g ⟨[.slice none 0 0,bv,.bool false],3,135,true⟩) G.gs):=fun q en hq=>by
 have h1:=ha.same q en hq fun e=>by cases e
 have h2:q≠g:=fun e=>by rw[e,hg]at h1;cases h1
 refine⟨en,?_,.refl _⟩
 rw[bL,bg _ _ h2]
 ·exact h1
 ·rw[hG.2]
  intro hm
  rcases List.mem_cons.1 hm with hm | hm
  ·exact h2 hm
  ·rcases ha.new q hm with h3 | h3
   ·cases h3
   ·rw[h3]at hq;cases hq
def QkP(p:Prg)(c:List Rat)(st:Int)(xv:Value)(H:Heap):Prop:=(st=1∧∃x,aQ bV 3 H xv x∧x.length=p.free.length∧qb p c 1 (cJ p.free.length (fn c) (fn x))∧∀q,q∈x→aN q≤17)∨(st≠1∧qb p c st 0)
theorem aku{H:Heap}{p:Prg}{c:List Rat}{pv cv:Value}{Ar Ab:Option Addr}{cr cb N N0:Nat}{rg:List (Nat×Nat)}(bO:p.Ok)(fh:c.length=p.free.length)(hp:m7 N H pv p)(hc:aQ (dI N) 3 H cv c)(hN:(N:Int)≤4398046511000)(ht:IV H Ar Ab rg p.lp.m (p.w+1) (dN p) p.unit)(hz:∀i,i<p.lp.m→∀j,j≤p.w→aN (dN p i j)≤N0)(DU:(N0:Int)≤4398046511000):
 Fn Tryz.prog 55 #[pv,cv,.agg #[.slice Ar p.lp.m cr,.slice Ab p.lp.m cb],.int .i64 (p.u:Int)] H (fun v H'=>∃st xv b,v = .tuple #[.int .i64 st,xv,.bool b]∧Heap.le H H'∧(b=true→QkP p c st xv H')):=by
 obtain⟨fv,kE,rfl,ng,nh⟩:=id hp
 obtain⟨Ac,cc,xc,rfl,L3,nK,tU⟩:=id hc
 have pH:=HC p
 have SR:=bO.pM
 have MZ:=bO.rows
 have akv:p.lp.m≤800:=MZ
 have aaZ:p.lp.n≤400:=SR
 have mA:=ft p
 have akw:=mC p;refine aZ (args:=[_,_,_,_]) Tryz.func55 rfl rfl Tryz.ntmps55 rfl rfl fun w0=> ?_;refine ah [0,1,2,3] rfl ?_;refine ae (bY rfl rfl (bY rfl rfl (aa 3 rfl (ab [1,3,4,6] ?_))));refine Mt 4 rfl fun g4 e4 BR=> ?_;have BJ:Rd (ins H g4 ⟨[fv,kE],2,e4,true⟩) (some ⟨g4,0,none⟩) [fv,kE]:=ea _ _ _ _ _ _;have cM:Heap.le H (ins H g4 ⟨[fv,kE],2,e4,true⟩):=Heap.bG _ BR
 show VC _ _ _ _ _ _ _ (ins H g4 ⟨[fv,kE],2,e4,true⟩)
 generalize ins H g4 ⟨[fv,kE],2,e4,true⟩=H1 at *
 have z8:=ht.le cM;refine ae (aa 2 rfl (dW Tryz.underlying49 fC rfl rfl (kL H1 3 1) (z8.s9) (by rw[BG,Nat.mul_one]) (akr) (by omega) (by omega) ?_));intro bv H2 lF;rw[List.nil_append,Nat.zero_add]at lF;obtain⟨A2,c2,rfl⟩:=lF.own.form;refine cL ag rfl aec rfl rfl (JX rfl rfl ?_);intro g hg;obtain⟨G0,akx,mf⟩:=aks (M:=dN p) (W:=p.w+1) lF.own hg;have tX:Heap.le H1 (rem (ins H2 g ⟨[.slice none 0 0,.slice A2 p.lp.m c2,.bool false],3,135,true⟩) G0.gs):=akt mf lF hg akx;refine aa 1 rfl (ab [1,3,4,6,11] ?_);refine ae (aa 1 rfl (aF rfl rfl ⟨by omega,by omega⟩ (aa 1 rfl (ab [1,3,4,6,11,12] ?_))));refine ao (ae (aa 4 rfl (ab [1,3,4,11,12,39,40,41] ?_)));refine aE (gn (fun(i:Nat)(G:GG)=>p.lp.m-i) (fun(i:Nat)(G:GG)=>put (put (put (put (put (put (put (put (emp) 1 (.val (.slice Ac c.length cc))) 3 (.val (.int .i64 (p.u:Int)))) 4 (.val (.pointer (some ⟨g4,0,none⟩)))) 11 (.val (.pointer (some ⟨g,0,none⟩)))) 12 (.val (.int .i64 (wid p i:Int)))) 39 (.val (.slice Ar p.lp.m cr))) 40 (.val (.int .i64 (p.lp.m:Int)))) 41 (.val (.int .i64 (i:Int)))) (fun(i:Nat)(G:GG) H'=>QV false H' g G i (p.w+1) p.lp.m (dN p) p.unit∧Heap.le H1 (rem H' G.gs)∧i≤p.lp.m) 0 G0 (⟨mf,tX,Nat.zero_le _⟩) (by repeat (first | exact iJ _ | refine dA rfl ?_ | refine dA (iX (by first | omega | (simp;done) | (simp[wid];done))) ?_)) ?_)
 rintro i G H3 ⟨hq,hl,hi⟩;have hlH:=cM.trans (hl.trans (bD _ _));refine ae (aa 1 rfl (ab [1,3,4,11,12,39,40,41,42] ?_));refine ao (aD rfl (fun hb=> ?_) (fun hb=> ?_))
 ·
  have aP:i<p.lp.m:=by simpa using hb
  obtain⟨pi,cU⟩:∃pi,rg[i]? = some pi:=⟨_,List.getElem?_eq_getElem (by rw[ht.len];exact aP)⟩;obtain⟨xp,jr,hep⟩:=z8.row i pi cU;refine az (ah [1,3,4,11,39,40,41] rfl ?_);refine ao (aE (ae (aS ag rfl rfl rfl rfl rfl (z8.kP.le (hl.trans (bD _ _))) (by rw[Int.toNat_natCast];exact kj cU) (by omega) (by omega) fun _=> ?_)));refine aa 1 rfl (ab [1,3,4,11,14,39,40,41] ?_);refine ae (aa 2 rfl (gP Tryz.underlying136 fO rfl rfl rfl (by omega) (by omega) (by omega) (by omega) ?_));intro z I4;have sO:=aaE (P:=q3) (e:=138) (sz:=2) (zs:=[.int .i64 0,.int .i64 0]) (z:=0) (k:=((p.w+1:Nat):Int)) (c:=p.w+1) I4 rfl (Int.toNat_natCast _) (by unfold maxLen;omega) hq.cY.ne;rw[Int.toNat_natCast]at sO⊢;refine aa 1 rfl (ab [1,3,4,11,14,15,39,40,41] ?_);refine ao (ae (aa 3 rfl (ab [1,3,4,11,15,39,40,41,48,49,50] ?_)));refine aE (fB (fun(j:Nat)(w:Value)(xs:List Value)=>p.w+1-j) (fun(j:Nat)(w:Value)(xs:List Value)=>put (put (put (put (put (put (put (put (put (put (put (emp) 1 (.val (.slice Ac c.length cc))) 3 (.val (.int .i64 (p.u:Int)))) 4 (.val (.pointer (some ⟨g4,0,none⟩)))) 11 (.val (.pointer (some ⟨g,0,none⟩)))) 15 (.val (w))) 39 (.val (.slice Ar p.lp.m cr))) 40 (.val (.int .i64 (p.lp.m:Int)))) 41 (.val (.int .i64 (i:Int)))) 48 (.val (.slice (some ⟨pi.1,0,none⟩) (p.w+1) pi.2))) 49 (.val (.int .i64 ((p.w+1:Nat):Int)))) 50 (.val (.int .i64 (j:Int)))) (fun(j:Nat)(w:Value)(xs:List Value) H'=>fE G.gs H3 q3 138 2 H' w (aK (dN p i) j) xs∧j≤p.w+1) 0 _ _ (⟨sO,Nat.zero_le _⟩) ar ?_)
  rintro j w xs H5 ⟨hX,hj⟩;obtain⟨A5,c5,e5⟩:=hX.form;rw[bB]at e5;subst e5;have I5:=hl.trans hX.base;refine ae (aa 1 rfl (ab [1,3,4,11,15,39,40,41,48,49,50,51] ?_));refine ao (aD rfl (fun hb=> ?_) (fun hb=> ?_))
  ·
   have hjW:j<p.w+1:=by simp at hb;omega
   obtain⟨vs,_,yj,p9⟩:=hep.get (dM hjW);obtain⟨t,rfl,SS⟩:=bV.rc yj;have hzj:=hz i aP j (by omega);refine az (ah [1,3,4,11,15,39,40,41,48,49,50] rfl ?_);refine ao (aE (ae (cj (vs:=[.bool t.f,.slice t.A1 t.m1 t.c1,.slice t.A2 t.m2 t.c2]) ag rfl rfl rfl rfl (jr.le (I5.trans (bD _ _))) rfl (by decide) (by rw[Int.toNat_natCast];exact p9) (by omega) (by omega) fun _=> ?_)));refine bh bQ rfl ?_;obtain⟨ti,aj,ak⟩:=aU;refine aH (.inl ⟨rfl,rfl⟩) rfl rfl rfl aj ak rfl rfl rfl (ab [1,3,4,11,15,17,39,40,41,48,49,50] ?_);refine ae (aa 1 rfl (aC rfl rfl (hX.call (ZH (N:=N0) ((bH.raw (SS.le I5)).mono hzj) DU)) ?_));rintro _ H6 nv;have wh:=hX.kX zZ nv fun _ _ h=>h.1;obtain⟨⟨_,n6,d6,b6,rfl,pR⟩,_⟩:=nv;refine aa 3 rfl (bh fO rfl ?_);obtain⟨ti,aj,ak⟩:=eD;refine aH (.inl ⟨rfl,rfl⟩) rfl rfl rfl aj ak rfl rfl rfl (aa 1 rfl (ab [1,3,4,11,15,18,19,39,40,41,48,49,50] ?_));refine ao (ae (aa 2 rfl (ab [1,3,4,11,15,18,39,40,41,48,49,50,60] ?_)));refine aD rfl (fun hb=> ?_) (fun hb=> ?_)
   ·
    skip
    refine ae (aa 3 rfl (ab [8,9,10] ?_));refine aB ⟨.inr rfl,_,.tmp rfl (.tmp rfl (.tmp rfl (.nil))),?_⟩;exact⟨0,.slice none 0 0,false,rfl,cM.trans (hl.trans (wh.base.trans (bD _ _))),fun h9=>by cases h9⟩
   have lh:=pR (by simpa using hb);refine az (ah [1,3,4,11,15,18,39,40,41,48,49,50] rfl ?_);refine aA rfl (aa 2 rfl (cI Tryz.underlying136 fO rfl rfl rfl rfl rfl rfl rfl ?_));intro gb aV;have Aa:=wh.ins zZ (whole (dS [.agg #[.int .i64 n6,.int .i64 d6]]) 138) aV;refine dW Tryz.underlying136 fO rfl rfl Aa.own (ea _ _ _ _ _ _) rfl aaY (by rw[bB];omega) (by rw[bB];omega) ?_;intro W9 H7 re;have SU:=Aa.append zZ (j:=[dN p i j]) (by simp) re (iE (show q3 _ [_,_] _ from lh) rfl);refine aa 1 rfl (au (ah [1,3,4,11,15,39,40,41,48,49,50] rfl ?_));refine aA rfl (aF rfl rfl ⟨by omega,by omega⟩ (aa 1 rfl (au ?_)));exact⟨j+1,_,_,by omega,ar,by rw[xE];exact SU,by omega⟩
  ·
   have hjW:p.w+1≤j:=by simp at hb;omega
   obtain rfl:j=p.w+1:=by omega
   obtain⟨z,cz,ez,hzb⟩:=Qm hX.own (by rw[bB];omega);rw[bB]at ez;have e1:=(Value.slice.inj ez).1;have e2:=(Value.slice.inj ez).2.2;subst e1;subst e2;clear ez;obtain⟨hgX,aky,heX⟩:=hX.cY hq.cY;have hqX:QV false H5 g (G.on (z::G.top)) i (p.w+1) p.lp.m (dN p) p.unit:=⟨hgX,List.mem_cons_of_mem _ hq.gt,(hX.same g hq.mem).trans hq.st⟩;have nN:z≠g:=fun e9=>hX.apart g hq.mem (by rw[←e9];exact List.mem_singleton.2 rfl);have SV:o6 vY (rem H5 (G.on (z::G.top)).gs) H5 z (aK (dN p i) (p.w+1)):=⟨_,_,hzb,hX.jD⟩;refine aX (ah [1,3,4,11,15,39,40,41] rfl ?_);refine aA rfl (aa 3 rfl (aW ag rfl rfl rfl (aR ag rfl rfl rfl (hqX.iP) (aa 1 rfl (cI Tryz.underlying133 Df rfl rfl rfl rfl rfl rfl rfl ?_)))));intro gb aV;obtain⟨vo,tc⟩:=hqX.fresh (e:=whole [.slice (some ⟨z,0,none⟩) (p.w+1) c5] 136) aV;have SW:o6 vY (rem (ins H5 gb (whole [.slice (some ⟨z,0,none⟩) (p.w+1) c5] 136)) (G.on (z::G.top)).gs) (ins H5 gb (whole [.slice (some ⟨z,0,none⟩) (p.w+1) c5] 136)) z (aK (dN p i) (p.w+1)):=SV.le tc (bg _ _ fun(e9:z=gb)=>by rw[←e9,hzb]at aV;cases aV);refine dW Tryz.underlying133 Df rfl rfl vo.cY.rows (ea _ _ _ _ _ _) rfl (B0 _ _ _) (by omega) (by omega) ?_;intro v8 H8 nP;obtain⟨A8,c8,rfl⟩:=nP.own.form
   rw[show iR (G.on (z::G.top)).rg (p.w+1)++dS [Value.slice (some ⟨z,0,none⟩) (p.w+1) c5]=iR (G.rg ++ [(z,c5)]) (p.w+1)from aaX]at nP;obtain⟨fW,eT,E2⟩:=vo.more (G:=G) hq.gt nN SW nP
   have fW:=fW.CF fun i' eX j' Mq=>show dN p i' j'=(if i'=i then dN p i else dN p i') j' by split <;> simp_all
   have eT:=(hl.trans aky).trans (tc.trans eT);refine aa 3 rfl (aW ag rfl rfl rfl ?_);obtain⟨ti,aj,ak⟩:=J9;refine j6 (g:=g) (o:=0) (.inl rfl) rfl E2 rfl (by show 0+1≤3;omega) aj ak rfl rfl rfl rfl ?_;refine aa 1 rfl (au (ah [1,3,4,11,12,39,40,41] rfl ?_));refine aA rfl (aF rfl rfl ⟨by omega,by omega⟩ (aa 1 rfl (au ?_)))
   have e8:wid p (i+1)=p.w+1:=by unfold wid;rw[if_neg (by omega)]
   exact⟨i+1,_,by omega,ar,fW,eT,by omega⟩
 ·
  have aP:p.lp.m≤i:=by simpa using hb
  obtain rfl:i=p.lp.m:=by omega
  rw[akp];have sO:=Mo (P:=q3) (e:=138) (sz:=2) hq.cY.ne;refine aX (ah [1,3,4,11,12] rfl ?_);refine ae (aa 1 rfl (ab [1,3,4,11,12,20] ?_));refine ao (ae (aa 3 rfl (ab [3,4,11,12,20,79,80,81] ?_)));refine aE (fB (fun(j:Nat)(w:Value)(xs:List Value)=>c.length-j) (fun(j:Nat)(w:Value)(xs:List Value)=>put (put (put (put (put (put (put (put (emp) 3 (.val (.int .i64 (p.u:Int)))) 4 (.val (.pointer (some ⟨g4,0,none⟩)))) 11 (.val (.pointer (some ⟨g,0,none⟩)))) 12 (.val (.int .i64 ((p.w+1:Nat):Int)))) 20 (.val (w))) 79 (.val (.slice Ac c.length cc))) 80 (.val (.int .i64 (c.length:Int)))) 81 (.val (.int .i64 (j:Int)))) (fun(j:Nat)(w:Value)(xs:List Value) H'=>fE G.gs H3 q3 138 2 H' w (aK (fn c) j) xs∧j≤c.length) 0 _ _ (⟨sO,Nat.zero_le _⟩) ar ?_);rintro j w xs H5 ⟨hX,hj⟩;obtain⟨A5,c5,e5⟩:=hX.form;rw[bB]at e5;subst e5;have I5:=hl.trans hX.base;refine ae (aa 1 rfl (ab [3,4,11,12,20,79,80,81,82] ?_));refine ao (aD rfl (fun hb=> ?_) (fun hb=> ?_))
  ·
   have SX:j<c.length:=by simpa using hb
   obtain⟨vs,_,yj,p9⟩:=tU.get (show c[j]? = some (fn c j) by rw[List.getElem?_eq_getElem SX,oN (List.getElem?_eq_getElem SX)]);obtain⟨t,rfl,SS⟩:=dI.rc yj;refine az (ah [3,4,11,12,20,79,80,81] rfl ?_);refine ao (aE (ae (cj (vs:=[.bool t.f,.slice t.A1 t.m1 t.c1,.slice t.A2 t.m2 t.c2]) ag rfl rfl rfl rfl (nK.le (cM.trans (I5.trans (bD _ _)))) rfl (by decide) (by rw[Int.toNat_natCast];exact p9) (by omega) (by omega) fun _=> ?_)));refine bh bQ rfl ?_;obtain⟨ti,aj,ak⟩:=aU;refine aH (.inl ⟨rfl,rfl⟩) rfl rfl rfl aj ak rfl rfl rfl (ab [3,4,11,12,20,22,79,80,81] ?_);refine ae (aa 1 rfl (aC rfl rfl (hX.call (ZH (N:=N) (SS.le (cM.trans I5)) hN)) ?_));rintro _ H6 nv;have wh:=hX.kX zZ nv fun _ _ h=>h.1;obtain⟨⟨_,n6,d6,b6,rfl,pR⟩,_⟩:=nv;refine aa 3 rfl (bh fO rfl ?_);obtain⟨ti,aj,ak⟩:=eD;refine aH (.inl ⟨rfl,rfl⟩) rfl rfl rfl aj ak rfl rfl rfl (aa 1 rfl (ab [3,4,11,12,20,23,24,79,80,81] ?_));refine ao (ae (aa 2 rfl (ab [3,4,11,12,20,23,79,80,81,91] ?_)));refine aD rfl (fun hb=> ?_) (fun hb=> ?_)
   ·
    skip
    refine ae (aa 3 rfl (ab [8,9,10] ?_));refine aB ⟨.inr rfl,_,.tmp rfl (.tmp rfl (.tmp rfl (.nil))),?_⟩;exact⟨0,.slice none 0 0,false,rfl,cM.trans (hl.trans (wh.base.trans (bD _ _))),fun h9=>by cases h9⟩
   have lh:=pR (by simpa using hb);refine az (ah [3,4,11,12,20,23,79,80,81] rfl ?_);refine aA rfl (aa 2 rfl (cI Tryz.underlying136 fO rfl rfl rfl rfl rfl rfl rfl ?_));intro gb aV;have Aa:=wh.ins zZ (whole (dS [.agg #[.int .i64 n6,.int .i64 d6]]) 138) aV;refine dW Tryz.underlying136 fO rfl rfl Aa.own (ea _ _ _ _ _ _) rfl aaY (by rw[bB];omega) (by rw[bB];omega) ?_;intro W9 H7 re;have SU:=Aa.append zZ (j:=[fn c j]) (by simp) re (iE (show q3 _ [_,_] _ from lh) rfl);refine aa 1 rfl (au (ah [3,4,11,12,20,79,80,81] rfl ?_));refine aA rfl (aF rfl rfl ⟨by omega,by omega⟩ (aa 1 rfl (au ?_)));exact⟨j+1,_,_,by omega,ar,by rw[xE];exact SU,by omega⟩
  have SX:c.length≤j:=by simpa using hb
  obtain rfl:j=c.length:=by omega
  have CC:=hX.sl zZ;rw[akq]at CC;have dZ:QV false H5 g G p.lp.m (p.w+1) p.lp.m (dN p) p.unit:=⟨hq.cY.kept ⟨hX.out,hX.same⟩,hq.gt,(hX.same g hq.mem).trans hq.st⟩;have eI:=hl.trans hX.out;clear hX;refine aX (ah [3,4,11,12,20] rfl ?_);refine ae (aa 1 rfl (gP Tryz.underlying136 fO rfl rfl rfl (by omega) (by omega) (by omega) (by omega) ?_));intro z I4;rw[Int.toNat_natCast]
  have nN:z≠g:=fun e9=>by rw[e9,dZ.st]at I4;cases I4
  obtain⟨Ae,CI,du,fG⟩:∃Ae CI,G.bv = .slice Ae p.lp.m CI∧∀t H',cA vY H' (G.on t) p.lp.m (p.w+1) p.lp.m (dN p) p.unit→∀i,i<p.lp.m→Rd H' Ae (eN p.unit p.lp.m):=by
   rcases dZ.cY.basis with ⟨h1,h2,h3⟩ | ⟨gb,cb,sz,h1,h2,h3⟩
   ·exact⟨none,0,by rw[h3,h1],fun _ _ _ i hi=>by omega⟩
   ·
    refine⟨_,cb,h2,fun t H' h' i hi=> ?_⟩
    rcases h'.basis with ⟨k1,k2,k3⟩ | ⟨Cv,ES,fk,k1,k2,k3⟩
    ·omega
    ·
     have k1:G.bb = [Cv]:=k1;rw[h1]at k1;cases k1;exact dQ k3
  obtain⟨DX,SE⟩:=dZ.cY.apart (e:=⟨dd [.int .i64 0,.int .i64 0] ((p.w+1)*2),(p.w+1)*2,138,true⟩) I4;have SY:QY false (rem H5 G.gs) (ins H5 z ⟨dd [.int .i64 0,.int .i64 0] ((p.w+1)*2),(p.w+1)*2,138,true⟩) g G p.lp.m (p.w+1) p.lp.m (dN p) p.unit z (fun _=>0) 0:=⟨⟨DX,List.mem_cons_of_mem _ dZ.gt,by rw[bg _ _ (Ne.symm nN)];exact dZ.st⟩,⟨_,bn _ _ _,SA⟩,nN,by rw[SE];exact .refl _⟩
  generalize ins H5 z ⟨dd [.int .i64 0,.int .i64 0] ((p.w+1)*2),(p.w+1)*2,138,true⟩=H6 at *
  refine aa 1 rfl (ab [3,4,11,12,20,25] ?_);refine ao (ae (aa 3 rfl (ab [3,4,11,12,20,25,100,101] ?_)));refine aE (fB (fun(k:Nat)(f:Nat→Rat)(o1:Bool)=>p.w+1-k) (fun(k:Nat)(f:Nat→Rat)(o1:Bool)=>put (put (put (put (put (put (put (put (emp) 3 (.val (.int .i64 (p.u:Int)))) 4 (.val (.pointer (some ⟨g4,0,none⟩)))) 11 (.val (.pointer (some ⟨g,0,none⟩)))) 12 (.val (.int .i64 ((p.w+1:Nat):Int)))) 20 (.val (.slice A5 c.length c5))) 25 (.val (.slice (some ⟨z,0,none⟩) (p.w+1) (p.w+1)))) 100 (.val (.int .i64 ((p.w+1:Nat):Int)))) 101 (.val (.int .i64 (k:Int)))) (fun(k:Nat)(f:Nat→Rat)(o1:Bool) H'=>QY o1 (rem H5 G.gs) H' g G p.lp.m (p.w+1) p.lp.m (dN p) p.unit z f k∧(o1=false→∀j,j<k→f j=ra p (dN p) j)∧k≤p.w+1) 0 (fun _=>0) false (⟨SY,fun _ j hj=>absurd hj (Nat.not_lt_zero _),Nat.zero_le _⟩) ar ?_);rintro k f o1 H7 ⟨hY,hf,hk⟩;obtain⟨zs,qh,sR⟩:=hY.row;have FJ:=MS sR hk;refine ae (aa 1 rfl (ab [3,4,11,12,20,25,100,101,102] ?_));refine ao (aD rfl (fun hb=> ?_) (fun hb=> ?_))
  ·
   have fi:k<p.w+1:=by simp at hb;omega
   have vn:=hY.put (o':=o1) ((Kept.refl _ _).iF _) hY.q.st (Ss (f:=bZ f k 0) (ako sR fun j hj=>pa (by omega)) fi (by rw[qX];exact EJ));refine az (ah [3,4,11,12,20,25,100,101] rfl ?_);refine ao (aE (ae (aa 2 rfl (ab [3,4,11,12,20,25,26,100,101] ?_))));refine ae (aa 2 rfl (cL ag rfl fO rfl rfl ?_));obtain⟨ti,aj,ak⟩:=eD;refine cV (.inl rfl) ag rfl rfl rfl (by omega) (by omega) (qh) rfl (by show 0+(p.w+1)*2≤zs.length;omega) aj ak (fun _=>rfl) rfl rfl rfl fun _=> ?_;refine ab [3,4,11,12,20,25,26,100,101] ?_;rw[EW,Int.toNat_natCast];refine ae (aa 2 rfl (aW ag rfl rfl rfl (aR ag rfl rfl rfl (show cell _ _=some (.slice Ae p.lp.m CI)from by rw[←du];exact vn.q.mH) ?_)));refine aa 2 rfl (ab [3,4,11,12,20,25,26,100,101,112,113] ?_);refine aE (fB (fun(i:Nat)(f2:Nat→Rat)(o2:Bool)=>p.lp.m-i) (fun(i:Nat)(f2:Nat→Rat)(o2:Bool)=>put (put (put (put (put (put (put (put (put (put (put (emp) 3 (.val (.int .i64 (p.u:Int)))) 4 (.val (.pointer (some ⟨g4,0,none⟩)))) 11 (.val (.pointer (some ⟨g,0,none⟩)))) 12 (.val (.int .i64 ((p.w+1:Nat):Int)))) 20 (.val (.slice A5 c.length c5))) 25 (.val (.slice (some ⟨z,0,none⟩) (p.w+1) (p.w+1)))) 26 (.val (.int .i64 (k:Int)))) 100 (.val (.int .i64 ((p.w+1:Nat):Int)))) 101 (.val (.int .i64 (k:Int)))) 112 (.val (.int .i64 (p.lp.m:Int)))) 113 (.val (.int .i64 (i:Int)))) (fun(i:Nat)(f2:Nat→Rat)(o2:Bool) H'=>QY o2 (rem H5 G.gs) H' g G p.lp.m (p.w+1) p.lp.m (dN p) p.unit z f2 (k+1)∧(o2=false→(∀j,j<k→f2 j=ra p (dN p) j)∧f2 k=rf p (dN p) k i)∧i≤p.lp.m) 0 (bZ f k 0) o1 (⟨vn,fun h9=>⟨fun j hj=>by rw[pa (by omega)];exact hf h9 j hj,by rw[qX,aaT]⟩,Nat.zero_le _⟩) ar ?_)
   rintro i f2 o2 H8 ⟨hV,hF,hi⟩;obtain⟨ws,s7,nC⟩:=hV.row;have pH:=MS nC (show k+1≤p.w+1 by omega);refine ae (aa 1 rfl (ab [3,4,11,12,20,25,26,100,101,112,113,114] ?_));refine ao (aD rfl (fun hb=> ?_) (fun hb=> ?_))
   ·
    have aP:i<p.lp.m:=by simpa using hb
    have yk:=fG _ _ hV.q.cY i aP;refine az (ah [3,4,11,12,20,25,26,100,101,112,113] rfl ?_);refine ao (aE (ae (aa 2 rfl (ab [3,4,11,12,20,25,26,27,100,101,112,113] ?_))));refine kM (fun(b0:Bool)=>put (put (put (put (put (put (put (put (put (put (put (put (put (emp) 3 (.val (.int .i64 (p.u:Int)))) 4 (.val (.pointer (some ⟨g4,0,none⟩)))) 11 (.val (.pointer (some ⟨g,0,none⟩)))) 12 (.val (.int .i64 ((p.w+1:Nat):Int)))) 20 (.val (.slice A5 c.length c5))) 25 (.val (.slice (some ⟨z,0,none⟩) (p.w+1) (p.w+1)))) 26 (.val (.int .i64 (k:Int)))) 27 (.val (.int .i64 (i:Int)))) 100 (.val (.int .i64 ((p.w+1:Nat):Int)))) 101 (.val (.int .i64 (k:Int)))) 112 (.val (.int .i64 (p.lp.m:Int)))) 113 (.val (.int .i64 (i:Int)))) 135 (.val (.bool b0))) (fun(b0:Bool) H'=>H'=H8∧(b0=true↔p.u≤p.unit i∧(k<p.u∨k=p.w))) ?_ ?_
    ·
     by_cases h1:p.u≤p.unit i
     ·
      skip
      by_cases h2:k<p.u
      ·
       skip
       refine aA rfl (aa 2 rfl (aW ag rfl rfl rfl (aR ag rfl rfl rfl (show cell _ _=some (.slice Ae p.lp.m CI)from by rw[←du];exact hV.q.mH) ?_)));refine aa 1 rfl (aS ag rfl rfl rfl rfl rfl (yk) (by rw[Int.toNat_natCast];exact gI aP) (by omega) (by omega) fun _=> ?_);refine aa 1 rfl (aG true rfl rfl (me (by omega)) (aa 3 rfl (aG true rfl rfl (ja (by omega)) (aa 7 rfl (au ?_)))));exact⟨_,ar,rfl,by simp[h1,h2]⟩
      skip
      by_cases h3:k=p.w
      ·
       skip
       refine aA rfl (aa 2 rfl (aW ag rfl rfl rfl (aR ag rfl rfl rfl (show cell _ _=some (.slice Ae p.lp.m CI)from by rw[←du];exact hV.q.mH) ?_)));refine aa 1 rfl (aS ag rfl rfl rfl rfl rfl (yk) (by rw[Int.toNat_natCast];exact gI aP) (by omega) (by omega) fun _=> ?_);refine aa 1 rfl (aG true rfl rfl (me (by omega)) (aa 3 rfl (aG false rfl rfl (ia (by omega)) (aa 3 rfl (cQ rfl rfl ⟨by omega,by omega⟩ (aG true rfl rfl (iL (by omega)) (aa 2 rfl (au ?_))))))));exact⟨_,ar,rfl,by simp[h1,h3]⟩
      skip
      refine aA rfl (aa 2 rfl (aW ag rfl rfl rfl (aR ag rfl rfl rfl (show cell _ _=some (.slice Ae p.lp.m CI)from by rw[←du];exact hV.q.mH) ?_)));refine aa 1 rfl (aS ag rfl rfl rfl rfl rfl (yk) (by rw[Int.toNat_natCast];exact gI aP) (by omega) (by omega) fun _=> ?_);refine aa 1 rfl (aG true rfl rfl (me (by omega)) (aa 3 rfl (aG false rfl rfl (ia (by omega)) (aa 3 rfl (cQ rfl rfl ⟨by omega,by omega⟩ (aG false rfl rfl (ks (by omega)) (aa 2 rfl (au ?_))))))));exact⟨_,ar,rfl,by simp[h1,h2,h3]⟩
     skip
     refine aA rfl (aa 2 rfl (aW ag rfl rfl rfl (aR ag rfl rfl rfl (show cell _ _=some (.slice Ae p.lp.m CI)from by rw[←du];exact hV.q.mH) ?_)));refine aa 1 rfl (aS ag rfl rfl rfl rfl rfl (yk) (by rw[Int.toNat_natCast];exact gI aP) (by omega) (by omega) fun _=> ?_);refine aa 1 rfl (aG false rfl rfl (ql (by omega)) (aa 11 rfl (au ?_)));exact⟨_,ar,rfl,by simp[h1]⟩
    rintro b0 H9 ⟨e9,gD⟩;rw[e9];clear e9 H9;refine aD rfl (fun hb=> ?_) (fun hb=> ?_)
    ·
     have S0:=gD.1 (by simpa using hb);obtain⟨pi,cU⟩:=dZ.cY.get aP;obtain⟨xs8,qU,anN,rh⟩:=hV.q.rk;obtain⟨xi8,si8,S1,S2⟩:=hV.q.row (G:=G.on _) cU;obtain⟨n5,d5,C6,lS⟩:=akm nC (Nat.lt_succ_self k) (show k+1≤p.w+1 by omega);obtain⟨n6,d6,lh,qC,_⟩:=mI S2 fi;have bm:=IA g H8;refine eo (.cO (k8 g H8)) [0,1,2,3,4,5,6,7,8,9,10,11,12,13,14,15,16,17,18,19] follows (gL [0,0,0,0,0,24,56,0,128,384,896,0,3968,8064,0,32640,65408,131068,262143,524287] (by kernel_rfl)) ?_;refine eP bm rfl (eP bm rfl (eP bm rfl (eP bm rfl (eP bm rfl (Cs bm ag rfl rfl rfl rfl (zQ s7 nN) rfl (by decide) (by rw[Int.toNat_natCast];exact lS) (by omega) (by omega) fun _=> ?_)))));refine eP bm rfl (lU bm rfl (lV bm ag rfl rfl rfl (jR bm ag rfl rfl rfl (hV.q.k0) (eP bm rfl (Cr bm ag rfl rfl rfl rfl rfl (qU) (by rw[Int.toNat_natCast];exact rh i pi cU) (by omega) (by omega) fun _=> ?_)))));refine eP bm rfl (Cs bm ag rfl rfl rfl rfl (zQ S1 (hV.q.xX (G:=G.on _) cU)) rfl (by decide) (by rw[Int.toNat_natCast];exact qC) (by omega) (by omega) fun _=> ?_);refine Ct rfl rfl (RK hV.q.mem hV.q.st C6 lh) (fun v H9 qY=>by obtain⟨k1,_,_,_,_,_,k2,_⟩:=qY;exact hV.q.fM k1 k2) ?_
     rintro v9 H9 ⟨yl,vs9,o9,q9,rfl,aa0,E2,fW⟩;obtain⟨n9,d9,rfl,_⟩:=id aa0;have bm:=hV.q.fM yl E2;have akz:=(yl.same z QZ.mJ nN).trans s7;have S3:=hV.put yl E2 (akn nC fi aa0);obtain⟨ti,aj,ak⟩:=eD;refine Mu bm ag rfl rfl rfl (by omega) (by omega) (akz) rfl (by show (p.w+1)*2≤ws.length;omega) aj ak (fun _=>rfl) rfl rfl rfl fun _=> ?_;refine au (ah [3,4,11,12,20,25,26,100,101,112,113] rfl ?_);refine aA rfl (aF rfl rfl ⟨by omega,by omega⟩ (aa 1 rfl (au ?_)));exact⟨i+1,bZ f2 k q9,o9,by omega,ar,S3,fun h9=>⟨fun j hj=>by rw[pa (by omega)];exact(hF (fW h9).1).1 j hj,by rw[qX,(fW h9).2,(hF (fW h9).1).2,aaU S0]⟩,by omega⟩
    have I6:¬(p.u≤p.unit i∧(k<p.u∨k=p.w)):=fun h9=>by have:=gD.2 h9;simp[this]at hb
    refine az (ah [3,4,11,12,20,25,26,100,101,112,113] rfl ?_);refine aA rfl (aF rfl rfl ⟨by omega,by omega⟩ (aa 1 rfl (au ?_)));exact⟨i+1,f2,o2,by omega,ar,hV,fun h9=>⟨(hF h9).1,by rw[(hF h9).2,aaV I6]⟩,by omega⟩
   have aP:p.lp.m≤i:=by simpa using hb
   obtain rfl:i=p.lp.m:=by omega
   rw[aaW]at hF;refine aX (ah [3,4,11,12,20,25,100,101] rfl ?_);refine aA rfl (aF rfl rfl ⟨by omega,by omega⟩ (aa 1 rfl (au ?_)))
   exact⟨k+1,f2,o2,by omega,ar,hV,fun h9 j hj=>by
    by_cases ej:j=k
    ·subst ej;exact(hF h9).2
    ·exact(hF h9).1 j (by omega),by omega⟩
  have fi:p.w+1≤k:=by simp at hb;omega
  obtain rfl:k=p.w+1:=by omega
  have hzE:=Su sR;have SV:o6 vY (rem H7 (G.on (z::G.top)).gs) H7 z (aK f (p.w+1)):=⟨_,_,qh,hzE⟩;refine aX (ah [3,4,11,12,20,25] rfl ?_);refine ae (aa 3 rfl (aW ag rfl rfl rfl (aR ag rfl rfl rfl (hY.q.iP) (aa 1 rfl (cI Tryz.underlying133 Df rfl rfl rfl rfl rfl rfl rfl ?_)))));intro gb aV;obtain⟨vo,tc⟩:=hY.q.fresh (e:=whole [.slice (some ⟨z,0,none⟩) (p.w+1) (p.w+1)] 136) aV;have SW:o6 vY (rem (ins H7 gb (whole [.slice (some ⟨z,0,none⟩) (p.w+1) (p.w+1)] 136)) (G.on (z::G.top)).gs) (ins H7 gb (whole [.slice (some ⟨z,0,none⟩) (p.w+1) (p.w+1)] 136)) z (aK f (p.w+1)):=SV.le tc (bg _ _ fun(e9:z=gb)=>by rw[←e9,qh]at aV;cases aV);refine dW Tryz.underlying133 Df rfl rfl vo.cY.rows (ea _ _ _ _ _ _) rfl (B0 _ _ _) (by omega) (by omega) ?_;intro v8 H8 nP;obtain⟨A8,c8,rfl⟩:=nP.own.form;rw[show iR (G.on (z::G.top)).rg (p.w+1)++dS [Value.slice (some ⟨z,0,none⟩) (p.w+1) (p.w+1)]=iR (G.rg ++ [(z,p.w+1)]) (p.w+1)from aaX]at nP;obtain⟨fW,eT,E2⟩:=vo.more (G:=G) hq.gt nN SW nP;have eT:=hY.le.trans (tc.trans eT);obtain⟨M9,ym⟩:∃M9,M9=(fun i=>if i=p.lp.m then f else dN p i):=⟨_,rfl⟩;rw[←ym]at fW;obtain⟨G9,nQ⟩:∃G9,G9=G.more G.top z (p.w+1) A8 c8 p.lp.m:=⟨_,rfl⟩
  rw[←nQ]at fW eT
  have gw:MI o1 o1 (l4 p) M9 p.unit p.lp.m (p.w+1) (if o1 then none else some (yg M9 p.unit p.lp.m p.w)):=by
   cases o1 with
   | true=>rfl
   | false=>
    refine⟨rfl,rfl,aaA bO (fun i hi j hj=>by rw[ym];show (if i=p.lp.m then f else dN p i) j=_;rw[if_neg (by omega)]) (fun j hj=> ?_),MT⟩
    have e7:ra p M9 j=ra p (dN p) j:=by
     unfold ra
     split
     ·
      congr 1
      refine eM fun i hi=> ?_;rw[ym]
      show (if _ then(if i=p.lp.m then f else dN p i) j else 0)=_
      rw[if_neg (show ¬i=p.lp.m by omega)]
     ·rfl
    rw[e7,←hf rfl j (by omega),ym]
    show (if p.lp.m=p.lp.m then f else _) j=_
    rw[if_pos rfl]
  have akA:∀T,(if o1 then none else some (yg M9 p.unit p.lp.m p.w))=some T→Acc (av.Step p.u) T:=fun T hT=>by
   cases o1 with
   | true=>cases hT
   | false=>cases hT;exact gw.2.2.1.acc
  have S4:∀i,i<p.lp.m→p.unit i<p.w+1:=fun i hi=>Nat.lt_succ_of_lt (nO p hi);refine aa 1 rfl (aW ag rfl rfl rfl ?_);obtain⟨ti,aj,ak⟩:=J9;refine j6 (g:=g) (o:=0) (.inl rfl) rfl E2 rfl (by show 0+1≤3;omega) aj ak rfl rfl rfl rfl ?_;refine ab [3,4,11,12,20] ?_;refine ae (aa 2 rfl (aC rfl rfl (aaq fW (by omega) (by omega) (by omega) (fun T r s=>l4.step) gw akA S4) ?_));rintro _ lW ⟨E3,M0,o10,S5,rfl,nW,qO,akB,S6⟩;have Ag:=eT.trans qO;refine ab [3,4,11,12,20] ?_;refine ao (ae (aa 2 rfl (aW ag rfl rfl rfl (aR ag rfl rfl rfl (nW.R1) (ab [3,4,11,12,20,173] ?_)))));refine aD rfl (fun hb=> ?_) (fun hb=> ?_)
  ·
   skip
   refine ae (aa 3 rfl (ab [8,9,10] ?_));refine aB ⟨.inr rfl,_,.tmp rfl (.tmp rfl (.tmp rfl (.nil))),?_⟩;exact⟨0,.slice none 0 0,false,rfl,cM.trans (eI.trans (Ag.trans (bD _ _))),fun h9=>by cases h9⟩
  have hb:o10=false:=by simpa using hb
  subst hb;obtain⟨_,T,hT,iS,rW,S7⟩:=akB rfl
  have I7:∀j,j<p.u→0≤T.c j:=fun j hj=>by
   cases S5 with
   | true=>rw[←iS.ec j (by omega)];exact rW rfl j hj
   | false=>
    obtain⟨s,k1,k2,k3⟩:=S7 rfl;exact(hT.aay k1 (by rw[←iS.ec s (by omega)];exact k2) fun i hi=>by rw[iS.em]at hi;rw[←iS.eA i hi s (by omega)];exact k3 i hi).elim
  obtain⟨pm,s3⟩:=nW.cY.get (Nat.lt_succ_self p.lp.m);obtain⟨xm,sm,Cx,Cy⟩:=nW.row s3;obtain⟨anO,HL,aa1,Ah⟩:=nW.rk;obtain⟨nm,dm,hfm,tx,i1,i2,i3,i4,C9⟩:=mI Cy (show p.w<p.w+1 by omega);refine az (ah [3,4,11,12,20] rfl ?_);refine ao (bM .bJ [0,1,2,3,4,5,6,7,8,9,10,11,12,13,14,15,16,17] follows (gL [0,1,3,7,0,16,48,112,240,496,1023,2047,0,4096,16383,32767,65535,131071] (by kernel_rfl)) ?_);refine aa 2 rfl (aW ag rfl rfl rfl (aR ag rfl rfl rfl (nW.iP) (aa 2 rfl (aW ag rfl rfl rfl (aR ag rfl rfl rfl (nW.iP) (aa 1 rfl (cQ rfl rfl ⟨by omega,by omega⟩ (aS ag rfl rfl rfl rfl rfl (aa1) (by rw[show (((p.lp.m+1:Nat):Int)-1).toNat=p.lp.m by omega];exact Ah _ pm s3) (by omega) (by omega) fun _=> ?_))))))));refine aa 1 rfl (cQ rfl rfl ⟨by omega,by omega⟩ (ki ag rfl rfl rfl rfl rfl rfl rfl (dQ Cx) (by rw[show (((p.w+1:Nat):Int)-1).toNat=p.w by omega];exact tx 0 _ rfl) (by omega) (by omega) fun _ _=> ?_));refine aa 1 rfl (ab [3,4,11,12,20,191] ?_);refine aD rfl (fun hb=> ?_) (fun hb=> ?_)
  ·
   have hb:nm≠0:=by simpa using hb
   have Bv:p.lp.pN:=hT.inf bO I7 (by rw[←iS.ec _ (Nat.lt_succ_self _),C9];exact fun h9=>hb ((uJ i3).1 h9));refine ae (aa 3 rfl (ab [8,9,10] ?_));refine aB ⟨.inr rfl,_,.tmp rfl (.tmp rfl (.tmp rfl (.nil))),?_⟩;exact⟨2,.slice none 0 0,true,rfl,cM.trans (eI.trans (Ag.trans (bD _ _))),fun _=> .inr ⟨by decide,.inr (.inl ⟨rfl,Bv,rfl⟩)⟩⟩
  have hb:nm=0:=by simpa using hb
  have S8:iT p 0 T:=hT.clean I7 (by rw[←iS.ec _ (Nat.lt_succ_self _),C9];exact(uJ i3).2 hb);obtain⟨je,Ir,uL,vS,anP⟩:=nW.less;refine az (ah [3,4,11,12,20] rfl ?_);refine bM .gB [0,1,2,3,4,5,6,7,8,9,10,11,12,13,14] follows (by kernel_rfl) ?_;refine aa 3 rfl (aW ag rfl rfl rfl (aR ag rfl rfl rfl (nW.iP) (aa 2 rfl (aW ag rfl rfl rfl (aR ag rfl rfl rfl (nW.iP) (aa 1 rfl (cQ rfl rfl ⟨by omega,by omega⟩ ?_)))))));rw[show ((p.lp.m+1:Nat):Int)-1=((p.lp.m:Nat):Int) by omega];refine rJ ag rfl rfl (.inl ⟨rfl,rfl⟩) (.inr ⟨_,_,rfl,rfl⟩) (by omega) (by omega) ?_;rw[yQ,Nat.sub_zero,Nat.sub_zero];refine aa 1 rfl (aW ag rfl rfl rfl ?_);obtain⟨ti,aj,ak⟩:=J9;refine j6 (g:=g) (o:=0) (.inr rfl) rfl nW.st rfl (by show 0+1≤3;omega) aj ak rfl rfl rfl rfl ?_;refine ab [3,4,11,12,20] ?_;refine RX Ir ?_;have aa2:=Ag.trans vS;clear Ir Cy hfm tx Cx aa1 Ah HL;obtain⟨ij,akC⟩:∃ij,ij=G9.less p.lp.m:=⟨_,rfl⟩;rw[←akC]at uL aa2;refine ao ?_;obtain⟨M6,M7,sA,BN⟩:=uL.s9;refine ae (aa 2 rfl (aW ag rfl rfl rfl (aR ag rfl rfl rfl (show cell _ _=some (.slice M6 p.lp.m M7)from by rw[←sA];exact uL.mH) ?_)))
  refine aa 2 rfl (ab [3,4,11,12,20,210,211] ?_);refine aE (pC (fun(i:Nat)(M1:Nat→Nat→Rat)(B1:Nat→Nat)(o1:Bool)=>p.lp.m-i) (fun(i:Nat)(M1:Nat→Nat→Rat)(B1:Nat→Nat)(o1:Bool)=>put (put (put (put (put (put (put (emp) 3 (.val (.int .i64 (p.u:Int)))) 4 (.val (.pointer (some ⟨g4,0,none⟩)))) 11 (.val (.pointer (some ⟨g,0,none⟩)))) 12 (.val (.int .i64 ((p.w+1:Nat):Int)))) 20 (.val (.slice A5 c.length c5))) 210 (.val (.int .i64 (p.lp.m:Int)))) 211 (.val (.int .i64 (i:Int)))) (fun(i:Nat)(M1:Nat→Nat→Rat)(B1:Nat→Nat)(o1:Bool) H'=>QV o1 H' g ij p.lp.m (p.w+1) p.lp.m M1 B1∧Heap.le (rem H5 G.gs) (rem H' ij.gs)∧(∀q,q<p.lp.m→B1 q<p.w+1)∧(o1=false→∃T,iT p i T∧gW M1 B1 T p.lp.m (p.w+1))∧i≤p.lp.m) 0 E3 M0 false (⟨uL,aa2,S6,fun _=>⟨T,S8,iS⟩,Nat.zero_le _⟩) ar ?_);rintro i M1 B1 o1 dC ⟨vJ,kV,S9,aa3,hi⟩;refine ae (aa 1 rfl (ab [3,4,11,12,20,210,211,212] ?_));refine ao (aD rfl (fun hb=> ?_) (fun hb=> ?_))
  ·
   have aP:i<p.lp.m:=by simpa using hb
   obtain⟨pi,cU⟩:=vJ.cY.get aP
   have Ta:o1=false→(∃T,iT p i T∧gW M1 B1 T p.lp.m (p.w+1)∧p.u≤B1 i∧∀j,j<0→M1 i j=0)∨(B1 i<p.u∧∃T,iT p (i+1) T∧gW M1 B1 T p.lp.m (p.w+1)):=fun h9=>by
    obtain⟨T,k1,k2⟩:=aa3 h9
    by_cases hu:B1 i<p.u
    ·exact .inr ⟨hu,T,k1.skip (by rw[k2.em];exact aP) (.inl (by rw[←k2.eB i aP];exact hu)),k2⟩
    ·exact .inl ⟨T,k1,k2,by omega,fun j hj=>absurd hj (Nat.not_lt_zero _)⟩
   refine az (ah [3,4,11,12,20,210,211] rfl ?_);refine ao (aE (ae (aa 2 rfl (ab [3,4,11,12,20,28,210,211] ?_))));refine ae (aa 1 rfl (ab [3,4,11,12,20,28,29,210,211] ?_));refine aE (pC (fun(k:Nat)(M2:Nat→Nat→Rat)(B2:Nat→Nat)(o2:Bool)=>p.u-k) (fun(k:Nat)(M2:Nat→Nat→Rat)(B2:Nat→Nat)(o2:Bool)=>put (put (put (put (put (put (put (put (put (emp) 3 (.val (.int .i64 (p.u:Int)))) 4 (.val (.pointer (some ⟨g4,0,none⟩)))) 11 (.val (.pointer (some ⟨g,0,none⟩)))) 12 (.val (.int .i64 ((p.w+1:Nat):Int)))) 20 (.val (.slice A5 c.length c5))) 28 (.val (.int .i64 (i:Int)))) 29 (.val (.int .i64 (k:Int)))) 210 (.val (.int .i64 (p.lp.m:Int)))) 211 (.val (.int .i64 (i:Int)))) (fun(k:Nat)(M2:Nat→Nat→Rat)(B2:Nat→Nat)(o2:Bool) H'=>QV o2 H' g ij p.lp.m (p.w+1) p.lp.m M2 B2∧Heap.le (rem H5 G.gs) (rem H' ij.gs)∧(∀q,q<p.lp.m→B2 q<p.w+1)∧(o2=false→(∃T,iT p i T∧gW M2 B2 T p.lp.m (p.w+1)∧p.u≤B2 i∧∀j,j<k→M2 i j=0)∨(B2 i<p.u∧∃T,iT p (i+1) T∧gW M2 B2 T p.lp.m (p.w+1)))∧k≤p.u) 0 M1 B1 o1 (⟨vJ,kV,S9,Ta,Nat.zero_le _⟩) ar ?_);rintro k M2 B2 o2 kW ⟨sI,mB,Ai,CJ,Lb⟩;have aa4:=BN sI i aP;refine ao ?_
   by_cases Cz:k<p.u
   ·
    skip
    by_cases h2u:p.u≤B2 i
    ·
     obtain⟨ajA,xM,aah,IH⟩:=sI.rk;obtain⟨MC,aai,zS,uM⟩:=sI.row cU;obtain⟨nk,dk,M8,hck,j1,j2,j3,j4,ie⟩:=mI uM (show k<p.w+1 by omega);refine ae (aa 2 rfl (aG true rfl rfl (ja (by omega)) (aa 3 rfl (aW ag rfl rfl rfl (aR ag rfl rfl rfl (show cell _ _=some (.slice M6 p.lp.m M7)from by rw[←sA];exact sI.mH) ?_)))));refine aa 1 rfl (aS ag rfl rfl rfl rfl rfl (aa4) (by rw[Int.toNat_natCast];exact gI aP) (by omega) (by omega) fun _=> ?_);refine aa 1 rfl (aG true rfl rfl (me (by omega)) (aa 1 rfl (ab [3,4,11,12,20,28,29,210,211,227] ?_)));refine cK rfl (az (ah [3,4,11,12,20,28,29,210,211] rfl ?_));refine ao (aE (ae (aa 2 rfl (aW ag rfl rfl rfl (aR ag rfl rfl rfl (sI.iP) (aa 1 rfl (aS ag rfl rfl rfl rfl rfl (aah) (by rw[Int.toNat_natCast];exact IH i pi cU) (by omega) (by omega) fun _=> ?_)))))));refine aa 1 rfl (ki ag rfl rfl rfl rfl rfl rfl rfl (dQ zS) (by rw[Int.toNat_natCast];exact hck 0 _ rfl) (by omega) (by omega) fun _ _=> ?_);refine aa 1 rfl (ab [3,4,11,12,20,28,29,210,211,241] ?_)
     refine aD rfl (fun hb=> ?_) (fun hb=> ?_)
     ·
      have hb:nk≠0:=by simpa using hb
      have bo:M2 i k≠0:=by rw[ie];exact fun h9=>hb ((uJ j3).1 h9)
      refine aA rfl (aa 3 rfl (aC rfl rfl (aab sI aP aP (show k<p.w+1 by omega) bo (by omega) (by omega)) ?_));rintro v14 p7 ⟨M3,o3,MD,akD,z6⟩;refine au (ah [3,4,11,12,20,28,29,210,211] rfl ?_);refine aA rfl (aa 1 rfl (aF rfl rfl ⟨by omega,by omega⟩ (aa 1 rfl (au ?_))));obtain⟨M5,I8⟩:∃M5:Nat→Nat→Rat,M5=fun q=>if q=p.lp.m then lZ M2 i k p.lp.m else M3 q:=⟨_,rfl⟩
      have I9:∀q,q<p.lp.m→M5 q=M3 q:=fun q hq=>by rw[I8];show (if q=p.lp.m then _ else M3 q)=_;rw[if_neg (by omega)]
      exact⟨k+1,M5,_,o3,by omega,ar,MD.CF fun q hq j _=>by rw[I9 q hq],mB.trans z6,fun q hq=>by
       show (if q=i then k else B2 q)<_
       split
       ·omega
       ·exact Ai q hq,fun h9=>by
       obtain⟨h8,sw⟩:=akD h9
       rcases CJ h8 with ⟨T,k1,k2,k3,k4⟩ | ⟨k1,_⟩
       ·
        refine .inr ⟨by rw[if_pos rfl];exact Cz,T.pivot i k,k1.pivot (by rw[k2.em];exact aP) (by rw[←k2.eB i aP];exact k3) Cz (by rw[←k2.eA i aP k (by omega)];exact bo),k2.pivot aP (by omega) fun q hq j hj=> ?_⟩
        by_cases e:q=p.lp.m
        ·
         subst e;rw[I8]
         show (if p.lp.m=p.lp.m then _ else M3 _) j=_
         rw[if_pos rfl]
        ·rw[I9 q (by omega)];exact sw q (by omega) j hj
       ·omega,by omega⟩
     have hb:nk=0:=by simpa using hb
     refine az (ah [3,4,11,12,20,28,29,210,211] rfl ?_);refine aA rfl (aa 1 rfl (aF rfl rfl ⟨by omega,by omega⟩ (aa 1 rfl (au ?_))))
     exact⟨k+1,M2,B2,o2,by omega,ar,sI,mB,Ai,fun h9=>by
      rcases CJ h9 with ⟨T,k1,k2,k3,k4⟩ | h8
      ·
       refine .inl ⟨T,k1,k2,k3,fun j hj=> ?_⟩
       by_cases e:j=k
       ·subst e;rw[ie];exact(uJ j3).2 hb
       ·exact k4 j (by omega)
      ·exact .inr h8,by omega⟩
    have hD:o2=false→∃T,iT p (i+1) T∧gW M2 B2 T p.lp.m (p.w+1):=fun h9=>by
     rcases CJ h9 with ⟨T,_,_,k3,_⟩ | h8
     ·omega
     ·exact h8.2
    refine ae (aa 2 rfl (aG true rfl rfl (ja (by omega)) (aa 3 rfl (aW ag rfl rfl rfl (aR ag rfl rfl rfl (show cell _ _=some (.slice M6 p.lp.m M7)from by rw[←sA];exact sI.mH) ?_)))));refine aa 1 rfl (aS ag rfl rfl rfl rfl rfl (aa4) (by rw[Int.toNat_natCast];exact gI aP) (by omega) (by omega) fun _=> ?_);refine aa 1 rfl (aG false rfl rfl (ql (by omega)) (aa 1 rfl (ab [3,4,11,12,20,28,29,210,211,227] ?_)));refine dh rfl (aX (ah [3,4,11,12,20,210,211] rfl ?_));refine aA rfl (aF rfl rfl ⟨by omega,by omega⟩ (aa 1 rfl (au ?_)));exact⟨i+1,M2,B2,o2,by omega,ar,sI,mB,Ai,hD,by omega⟩
   have hD:o2=false→∃T,iT p (i+1) T∧gW M2 B2 T p.lp.m (p.w+1):=fun h9=>by
    rcases CJ h9 with ⟨T,k1,k2,k3,k4⟩ | h8
    ·exact⟨T,k1.skip (by rw[k2.em];exact aP) (.inr fun j hj=>by rw[←k2.eA i aP j (by omega)];exact k4 j (by omega)),k2⟩
    ·exact h8.2
   refine ae (aa 2 rfl (aG false rfl rfl (ia (by omega)) (aa 11 rfl (ab [3,4,11,12,20,28,29,210,211,227] ?_))));refine dh rfl (aX (ah [3,4,11,12,20,210,211] rfl ?_));refine aA rfl (aF rfl rfl ⟨by omega,by omega⟩ (aa 1 rfl (au ?_)));exact⟨i+1,M2,B2,o2,by omega,ar,sI,mB,Ai,hD,by omega⟩
  have aP:p.lp.m≤i:=by simpa using hb
  obtain rfl:i=p.lp.m:=by omega
  have fJ:m7 N (rem dC ij.gs) (.agg #[fv,kE]) p:=hp.le (cM.trans (eI.trans kV));have E4:=CC.le zZ kV;have oh:p.lp.n≤400:=aaZ;refine aX (ah [3,4,11,12,20] rfl ?_);have bm:=IA g dC;refine bM (.cO (k8 g dC)) [0,1,2,3,4,5,6,7,8,9,10,11,12,13,14] follows (by kernel_rfl) ?_;refine eP bm rfl (eP bm rfl (lU bm rfl (lV bm ag rfl rfl rfl (jR bm ag rfl rfl rfl (vJ.k0) (eP bm rfl (IB bm ag rfl rfl rfl (((BJ.le (eI.trans kV)).kx vJ.mem).at) (eP bm rfl (eP bm rfl (Ct rfl rfl (ajT vJ fJ E4 fh (by omega) S9 (by omega) (by omega)) (fun v H9 qY=>by obtain⟨_,_,_,_,k1,_⟩:=qY;exact vJ.fM k1.iF k1.q.st) ?_)))))))));rintro Sf mE ⟨z5,f5,o5,rfl,qa,yn⟩;have bm:=vJ.fM qa.iF qa.q.st;obtain⟨z5s,aa5,akE⟩:=qa.row;have akF:o6 vY (rem mE (ij.on (z5::ij.top)).gs) mE z5 (aK f5 (p.w+1)):=⟨_,_,aa5,akE⟩;refine Eg Tryz.underlying133 Df rfl rfl ?_;intro gb aV;obtain⟨vo,tc⟩:=qa.q.fresh (e:=whole [.slice (some ⟨z5,0,none⟩) (p.w+1) (p.w+1)] 136) aV;have akG:o6 vY (rem (ins mE gb (whole [.slice (some ⟨z5,0,none⟩) (p.w+1) (p.w+1)] 136)) (ij.on (z5::ij.top)).gs) (ins mE gb (whole [.slice (some ⟨z5,0,none⟩) (p.w+1) (p.w+1)] 136)) z5 (aK f5 (p.w+1)):=akF.le tc (bg _ _ fun(e9:z5=gb)=>by rw[←e9,aa5]at aV;cases aV)
  have bm:(Mode.cO (k8 g dC)).fM (ins mE gb (whole [.slice (some ⟨z5,0,none⟩) (p.w+1) (p.w+1)] 136)):=fun ad u hu=>cB (Heap.bG _ aV) (bm ad u hu);refine Eh Tryz.underlying133 Df rfl rfl vo.cY.rows (ea _ _ _ _ _ _) rfl (B0 _ _ _) (by omega) (by omega) bm ?_;intro v16 E5 E6;have bm:(Mode.cO (k8 g dC)).fM E5:=fun ad u hu=>cB E6.le (bm ad u hu);obtain⟨Tc,Td,rfl⟩:=E6.own.form;obtain⟨Mg,vT,akH⟩:=vo.more (G:=ij) vJ.gt qa.ne akG (MY E6);have vT:=(kV.trans qa.le).trans (tc.trans vT);obtain⟨wi,CL⟩:∃wi,wi=(fun i=>if i=p.lp.m then f5 else M1 i):=⟨_,rfl⟩;rw[←CL]at Mg
  have EF:MI o5 o5 (nV p c) wi B1 p.lp.m (p.w+1) (if o5 then none else some (yg wi B1 p.lp.m p.w)):=by
   cases o5 with
   | true=>rfl
   | false=>
    obtain⟨k1,k2⟩:=yn rfl;obtain⟨T5,k3,k4⟩:=aa3 k1;refine⟨rfl,rfl,aaC k3 k4 (fun i hi j hj=>by rw[CL];show (if i=p.lp.m then f5 else M1 i) j=_;rw[if_neg (by omega)]) (fun j hj=> ?_),MT⟩;rw[←k2 j (by omega),CL]
    show (if p.lp.m=p.lp.m then f5 else _) j=_
    rw[if_pos rfl]
  have akI:∀T,(if o5 then none else some (yg wi B1 p.lp.m p.w))=some T→Acc (av.Step p.u) T:=fun T hT=>by
   cases o5 with
   | true=>cases hT
   | false=>cases hT;exact EF.2.2.1.acc
  refine lU bm rfl (lV bm ag rfl rfl rfl ?_);obtain⟨ti,aj,ak⟩:=J9;refine BP (g:=g) (o:=0) rfl akH rfl (by show 0+1≤3;omega) aj ak rfl rfl rfl rfl ?_;refine ab [3,4,11,12] ?_;refine ae (aa 2 rfl (aC rfl rfl (aaq Mg (by omega) (by omega) (by omega) (fun T r s=>nV.step) EF akI S9) ?_));rintro _ Te ⟨Tf,Tg,o18,Ja,rfl,F6,Th,akJ,Na⟩;have yo:=vT.trans Th;refine aa 1 rfl (ab [4,11,12,30] ?_);refine ao (ae (aa 2 rfl (aW ag rfl rfl rfl (aR ag rfl rfl rfl (F6.R1) (ab [4,11,12,30,267] ?_)))));refine aD rfl (fun hb=> ?_) (fun hb=> ?_)
  ·
   skip
   refine ae (aa 3 rfl (ab [8,9,10] ?_));refine aB ⟨.inr rfl,_,.tmp rfl (.tmp rfl (.tmp rfl (.nil))),?_⟩;exact⟨0,.slice none 0 0,false,rfl,cM.trans (eI.trans (yo.trans (bD _ _))),fun h9=>by cases h9⟩
  have hb:o18=false:=by simpa using hb
  subst hb;obtain⟨_,T2,CN,rj,Tj,Tk⟩:=akJ rfl;have OG:m7 N (rem Te _) (.agg #[fv,kE]) p:=hp.le (cM.trans (eI.trans yo));refine az (ah [4,11,12,30] rfl ?_);refine ae (aa 1 rfl (ab [4,8,11,12,30] ?_));refine ao (ae (aa 1 rfl (ab [4,8,11,12,268] ?_)));refine aD rfl (fun hb=> ?_) (fun hb=> ?_)
  ·
   have hb:Ja=true:=by simpa using hb
   have Tl:∀j,j<p.u→0≤T2.c j:=fun j hj=>by rw[←rj.ec j (by omega)];exact Tj hb j hj
   refine aA rfl (aa 1 rfl (au (ah [4,8,11,12] rfl ?_)));refine ae (aa 2 rfl (yG ag rfl rfl rfl (((BJ.le (eI.trans yo)).le (bD _ _)).at) (aa 1 rfl (aC rfl rfl (aaw F6 OG (by omega) (by omega) Na (by omega) (by omega)) ?_))));rintro Tm Rv ⟨Jb,Jc,aa6⟩;refine aa 3 rfl (ab [8,9,10] ?_);refine aB ⟨.inr rfl,_,.tmp rfl (.tmp rfl (.tmp rfl (.nil))),?_⟩;exact⟨1,Tm,true,rfl,cM.trans (eI.trans ((yo.trans (bD _ _)).trans Jb)),fun _=> .inl ⟨rfl,_,Jc,bB _ _,CN.opt bO fh Tl rj,fun q hq=>by obtain⟨j,hj,rfl⟩:=Ce hq;exact aa6 j hj⟩⟩
  have hb:Ja=false:=by simpa using hb
  obtain⟨s2,k1,k2,k3⟩:=Tk hb;refine az (ah [4,8,11,12] rfl ?_);refine ae (aa 2 rfl (yG ag rfl rfl rfl (((BJ.le (eI.trans yo)).le (bD _ _)).at) (aa 1 rfl (aC rfl rfl (aaw F6 OG (by omega) (by omega) Na (by omega) (by omega)) ?_))));rintro Tm Rv ⟨Jb,Jc,aa6⟩;refine aa 3 rfl (ab [8,9,10] ?_);refine aB ⟨.inr rfl,_,.tmp rfl (.tmp rfl (.tmp rfl (.nil))),?_⟩;exact⟨3,Tm,true,rfl,cM.trans (eI.trans ((yo.trans (bD _ _)).trans Jb)),fun _=> .inr ⟨by decide,CN.unb bO fh k1 (by rw[←rj.ec s2 (by omega)];exact k2) fun i hi=>by rw[rj.em]at hi;rw[←rj.eA i hi s2 (by omega)];exact k3 i hi⟩⟩
end Go.aq
namespace Go.aq
open Go.Proofs Num Lp
abbrev Nb(C:Heap→List Value→Prop):Prop:=∀K K' xs,Heap.le K K'→C K xs→C K' xs
abbrev lD(W:Nat)(f:Nat→Rat)(k:Nat)(K:Heap)(xs:List Value):Prop:=bA (ic bV K) 3 xs (fill (aK f W) k)
abbrev la(W:Nat)(f:Nat→Rat)(K:Heap)(xs:List Value):Prop:=bA (bV K) 3 xs (aK f W)
theorem Tn{W:Nat}{f:Nat→Rat}{k:Nat}:Nb (lD W f k):=fun _ _ _ hl h=>h.mono fun vs a=>ic.up cX _ _ vs a hl
theorem Aj{W:Nat}{f:Nat→Rat}:Nb (la W f):=fun _ _ _ hl h=>h.mono fun vs a=>cX _ _ vs a hl
theorem Jd{W k:Nat}{K:Heap}{xs:List Value}{f:Nat→Rat}(h:lD W f k K xs)(hk:k≤W):xs.length=W*3:=by
 have:=h.len
 rwa [mX (by rw[bB];exact hk),bB]at this
theorem yp{W:Nat}{K:Heap}{xs:List Value}{f:Nat→Rat}(h:la W f K xs):xs.length=W*3:=by
 have:=h.len
 rwa [bB]at this
theorem Nc{W k:Nat}{K:Heap}{xs vs:List Value}{f:Nat→Rat}(h:lD W f k K xs)(hk:k<W)(hv:bV K vs (f k)):lD W f (k+1) K (aJ xs (k*3) vs):=by
 show bA _ _ _ _
 rw[←zi (dM hk)]
 exact h.set (by rw[mX (by rw[bB];omega),bB];exact hk) (show ic bV _ vs (some (f k))from hv) (iG.len _ _ _ hv)
theorem Nd{W:Nat}{K:Heap}{xs:List Value}{f:Nat→Rat}(h:lD W f W K xs):la W f K xs:=by
 refine DR (P:=bV) (H:=K) ?_
 rw[bB];exact h
theorem Nf{W:Nat}{K:Heap}{f:Nat→Rat}:lD W f 0 K (dd [.bool false,.slice none 0 0,.slice none 0 0] (W*3)):=by
 have:=BF (P:=bV) (H:=K) (zs:=[.bool false,.slice none 0 0,.slice none 0 0]) (sz:=3) rfl (aK f W)
 rwa [bB]at this
theorem pe{xs vs:List Value}{s e k:Nat}:({(⟨xs,s,e,true⟩:Ent)with xs:=aJ xs (0+k*3) vs}:Ent)=⟨aJ xs (k*3) vs,s,e,true⟩:=by rw[Nat.zero_add]
structure SZ(C:Heap→List Value→Prop)(K H:Heap)(G:GG)(R W m:Nat)(M:Nat→Nat→Rat)(B:Nat→Nat)(u:Value)(l:List Nat)(z:Nat):Prop where
 q:cA iG H (G.on (z::(aw u++G.top))) R W m M B
 own:bR H u 3 1 l.length (vZ l)
 row:∃xs,H z=some ⟨xs,W*3,38,true⟩∧C (rem H (G.on (z::(aw u++G.top))).gs) xs
 le:Heap.le K (rem H (G.on (z::(aw u++G.top))).gs)
section
variable {C C':Heap→List Value→Prop} {K K' H H':Heap} {G:GG} {R W m z:Nat} {M M':Nat→Nat→Rat} {B:Nat→Nat} {u:Value} {l:List Nat} {f:Nat→Rat} {xs:List Value}
theorem SZ.mJ:z∈(G.on (z::(aw u++G.top))).gs:=List.mem_append_left _ (List.mem_cons_self ..)
theorem SZ.xY{q:Nat}(h:q∈aw u):q∈(G.on (z::(aw u++G.top))).gs:=List.mem_append_left _ (List.mem_cons_of_mem _ (List.mem_append_left _ h))
theorem SZ.SB(h:SZ C K H G R W m M B u l z):∀q,q∈aw u→q≠z:=fun q hq e=>by
 have h1:z∉(aw u++G.top)++G.low:=(List.nodup_cons.1 (show (z::((aw u++G.top)++G.low)).Nodup from h.q.nd)).1
 exact h1 (List.mem_append_left _ (List.mem_append_left _ (e▸hq)))
theorem GU.start(h:GU K H G R W m M B u l)(hz:H z=none)(hC:C (rem H (G.on (aw u++G.top)).gs) xs):SZ C K (ins H z ⟨xs,W*3,38,true⟩) G R W m M B u l z:=by
 obtain⟨h1,h2⟩:=h.q.apart (e:=⟨xs,W*3,38,true⟩) hz
 refine⟨h1,h.own.same fun q hq=>bg _ _ fun e=> ?_,⟨xs,bn _ _ _,?_⟩,?_⟩
 ·exact h.q.ne q (QU.xY (cF.2 hq)) (by rw[e];exact hz)
 ·show C (rem _ ((G.on (aw u++G.top)).on (z::(G.on (aw u++G.top)).top)).gs) xs
  rw[h2];exact hC
 ·show Heap.le K (rem _ ((G.on (aw u++G.top)).on (z::(G.on (aw u++G.top)).top)).gs)
  rw[h2];exact h.le
theorem SZ.kept(hC:Nb C)(h:SZ C K H G R W m M B u l z)(k:Kept (G.on (z::(aw u++G.top))).gs H H'):SZ C K H' G R W m M B u l z:=by
 obtain⟨xs,h3,h4⟩:=h.row
 exact⟨h.q.kept k,h.own.same fun q hq=>k.same q (SZ.xY (cF.2 hq)),⟨xs,(k.same z SZ.mJ).trans h3,hC _ _ _ k.le h4⟩,h.le.trans k.le⟩
theorem SZ.set(h:SZ C K H G R W m M B u l z)(k:Kept (G.on (z::(aw u++G.top))).gs H H')(hC:C' (rem H' (G.on (z::(aw u++G.top))).gs) xs):SZ C' K (ins H' z ⟨xs,W*3,38,true⟩) G R W m M B u l z:=by
 have h1:=h.q.kept k
 have hm:z∈(G.on (z::(aw u++G.top))).gs:=SZ.mJ
 have hT:fR (G.on (z::(aw u++G.top))).gs z H' (ins H' z ⟨xs,W*3,38,true⟩):=((Kept.refl _ _).iF z).ins hm _
 refine⟨h1.Cp (List.mem_cons_self ..) hT (by rw[bn];simp),h.own.same fun q hq=> ?_,⟨xs,bn _ _ _,by rw[cE _ hm];exact hC⟩,by rw[cE _ hm];exact h.le.trans k.le⟩
 rw[bg _ _ (h.SB q (cF.2 hq))];exact k.same q (SZ.xY (cF.2 hq))
theorem SZ.wj{j:Nat}{vs:List Value}{q:Rat}(h:SZ (la W f) K H G R W m M B u l z)(k:Kept (G.on (z::(aw u++G.top))).gs H H')(hD:la W f (rem H (G.on (z::(aw u++G.top))).gs) xs)(hj:j<W)(hv:bV (rem H' (G.on (z::(aw u++G.top))).gs) vs q):SZ (la W (bZ f j q)) K (ins H' z ⟨aJ xs (j*3) vs,W*3,38,true⟩) G R W m M B u l z:=
 h.set k (aaF (Aj _ _ _ k.le hD) hj hv)
theorem SZ.fresh(hC:Nb C)(h:SZ C K H G R W m M B u l z){k:Nat}{e:Ent}(hk:H k=none):SZ C K (ins H k e) G R W m M B u l z:=by
 obtain⟨_,h2⟩:=h.q.fresh (e:=e) hk
 exact h.kept hC ⟨h2,fun q hq=>bg _ _ fun(e':q=k)=>h.q.ne q hq (by rw[e'];exact hk)⟩
theorem SZ.vU(h:SZ C K H G R W m M B u l z):SZ C (rem H (G.on (z::(aw u++G.top))).gs) H G R W m M B u l z:=⟨h.q,h.own,h.row,.refl _⟩
theorem SZ.down(h:SZ C K H G R W m M B u l z)(hl:Heap.le K' K):SZ C K' H G R W m M B u l z:=⟨h.q,h.own,h.row,hl.trans h.le⟩
theorem SZ.to(h:SZ C K H G R W m M B u l z)(hC:∀xs,C (rem H (G.on (z::(aw u++G.top))).gs) xs→C' (rem H (G.on (z::(aw u++G.top))).gs) xs):SZ C' K H G R W m M B u l z:=by
 obtain⟨xs,h3,h4⟩:=h.row
 exact⟨h.q,h.own,⟨xs,h3,hC xs h4⟩,h.le⟩
theorem SZ.zne(h:SZ C K H G R W m M B u l z){q:Nat}(hq:q∈G.gs):q≠z:=fun e=>by
 have h1:z∉(aw u++G.top)++G.low:=(List.nodup_cons.1 (show (z::((aw u++G.top)++G.low)).Nodup from h.q.nd)).1
 rw[←e,List.append_assoc]at h1
 exact h1 (List.mem_append_right _ hq)
theorem SZ.more{c lB:Nat}{A':Option Addr}(h:SZ (la W f) K H G R W m M B u l z)(ha:App H (.slice G.Ar R G.cr) 28 1 (R+1) (iR (G.rg ++ [(z,c)]) W) (.slice A' (R+1) lB) H'):
  GU K H' (G.more G.top z c A' lB R) (R+1) W m (fun i=>if i=R then f else M i) B u l:=by
 obtain⟨xs,h3,h4⟩:=h.row
 obtain⟨h1,h2⟩:=h.q.more (t:=aw u++G.top) ⟨xs,_,h3,h4⟩ ha
 refine⟨h1,h.own.same fun q hq=> ?_,h.le.trans h2⟩
 obtain⟨en,he⟩:=h.own.block hq
 rw[he]
 refine ha.same q en he fun e=> ?_
 have hb:q∈G.hb:=by
  have:=h.q.lY
  have e2:G.hb=aw (.slice G.Ar R G.cr):=this
  rw[e2];exact cF.2 e
 exact GG.uI h.q.nd (q:=q) (r:=q) (List.mem_cons_of_mem _ (List.mem_append_left _ (cF.2 hq))) (GG.Cn (G:=G.on (z::(aw u++G.top))) hb) rfl
theorem GU.CF(h:GU K H G R W m M B u l)(hM:∀i,i<R→∀j,j<W→M' i j=M i j):GU K H G R W m M' B u l:=⟨h.q.CF hM,h.own,h.le⟩
theorem cA.gu(h:cA iG H G R W m M B):GU (rem H G.gs) H G R W m M B (.slice none 0 0) []:=⟨h,kL _ _ _,.refl _⟩
end
def g0:GG:=⟨[],[],[],.slice none 0 0,[],none,0⟩
theorem akK{H:Heap}{W:Nat}{M:Nat→Nat→Rat}{B:Nat→Nat}:GU H H g0 0 W 0 M B (.slice none 0 0) []:=by
 refine⟨⟨List.nodup_nil,fun q hq=>(by cases hq),rfl,rfl,kL _ _ _,fun i p hp=>(by cases hp),.inl ⟨rfl,rfl,rfl⟩⟩,kL _ _ _,?_⟩
 show Heap.le H (rem H [])
 rw[qv];exact .refl _
def GG.fin(G:GG)(u:Value):GG:={G with bb:=aw u,bv:=u}
theorem GU.fin{K H:Heap}{G:GG}{R W m:Nat}{M:Nat→Nat→Rat}{B B':Nat→Nat}{u:Value}(h:GU K H G R W 0 M B' u ((List.range m).map B))(hb:G.bb = []):cA iG H (G.fin u) R W m M B∧Heap.le K (rem H (G.fin u).gs):=by
 have jB:(G.on (aw u++G.top)).gs=(aw u++G.top)++(G.hb++(G.bb++G.rg.map (·.1))):=rfl
 have IT:(G.fin u).gs=G.top++(G.hb++(aw u++G.rg.map (·.1))):=rfl
 rw[hb,List.nil_append]at jB
 have s3:((aw u++G.top)++(G.hb++G.rg.map (·.1))).Perm (G.top++(G.hb++(aw u++G.rg.map (·.1)))):=by
  refine(List.Perm.append_right _ List.perm_append_comm).trans ?_
  rw[List.append_assoc]
  refine List.Perm.append_left _ ?_
  rw[←List.append_assoc,←List.append_assoc]
  exact List.Perm.append_right _ List.perm_append_comm
 have er:rem H (G.fin u).gs=rem H (G.on (aw u++G.top)).gs:=aaD fun q=>by rw[jB,IT];exact(s3.mem_iff).symm
 have dV:=h.q.nd
 rw[jB]at dV
 refine⟨⟨by rw[IT];exact s3.nodup_iff.1 dV,fun q hq=>h.q.top q (List.mem_append_right _ hq),h.q.iu,h.q.lY,h.q.rows,fun i p hp=> ?_,?_⟩,by rw[er];exact h.le⟩
 ·rw[er];exact h.q.row i p hp
 ·have h1:=h.own
  rw[List.length_map,List.length_range]at h1
  rcases h1.2 with ⟨h2,h3⟩ | ⟨g,cap,h2,h3,_⟩
  ·exact .inl ⟨h3,by show aw u = [];rw[h2];rfl,h2⟩
  ·exact .inr ⟨g,cap,_,by show aw u = [g];rw[h2];rfl,h2,by rw[h3,vZ,List.map_map];rfl⟩
section
variable {p:Prg}
abbrev _root_.Lp.Prg.xf(p:Prg)(j:Nat):Nat:=a6 p.lp.free j-j
abbrev _root_.Lp.Prg.sf(p:Prg)(i:Nat):Nat:=bC p.lp.rel p.c1 i-p.c1
abbrev _root_.Lp.Prg.af(p:Prg)(i:Nat):Nat:=a8 p.lp.rel p.aI p.u i-p.u
theorem akL{j:Nat}:p.xf (j+1)=p.xf j+(if p.lp.free j then 1 else 0):=by
 have h1:a6 p.lp.free (j+1)=a6 p.lp.free j+1+(if p.lp.free j then 1 else 0):=rfl
 have h2:=zV (fr:=p.lp.free) j
 show a6 p.lp.free (j+1)-(j+1)=a6 p.lp.free j-j+_
 omega
theorem akM(rel:Nat→Int)(c i:Nat):c≤bC rel c i:=by
 induction i with
 | zero=>exact Nat.le_refl _
 | succ i ih=>exact Nat.le_trans ih (Nat.le_add_right _ _)
theorem akN(rel sg:Nat→Int)(u i:Nat):u≤a8 rel sg u i:=by
 induction i with
 | zero=>exact Nat.le_refl _
 | succ i ih=>exact Nat.le_trans ih (Nat.le_add_right _ _)
theorem akO{i:Nat}:p.sf (i+1)=p.sf i+(if p.lp.rel i=2 then 0 else 1):=by
 have h1:bC p.lp.rel p.c1 (i+1)=bC p.lp.rel p.c1 i+(if p.lp.rel i=2 then 0 else 1):=rfl
 have h2:=akM p.lp.rel p.c1 i
 show bC p.lp.rel p.c1 (i+1)-p.c1=bC p.lp.rel p.c1 i-p.c1+_
 omega
theorem akP{i:Nat}:p.af (i+1)=p.af i+(if eY (p.lp.rel i) (p.aI i)then 0 else 1):=by
 have h1:a8 p.lp.rel p.aI p.u (i+1)=a8 p.lp.rel p.aI p.u i+(if eY (p.lp.rel i) (p.aI i)then 0 else 1):=rfl
 have h2:=akN p.lp.rel p.aI p.u i
 show a8 p.lp.rel p.aI p.u (i+1)-p.u=a8 p.lp.rel p.aI p.u i-p.u+_
 omega
theorem aa7{i:Nat}{r:List Rat×Int×Rat}(h:p.rows[i]? = some r):(fw r).2.1=km (p.lp.rel i) (p.aI i):=by
 have e:=Prg.r6 h
 have h1:p.lp.rel i=r.2.1:=by show (p.row i).2.1=_;rw[e]
 have h2:p.lp.b i=r.2.2:=by show (p.row i).2.2=_;rw[e]
 show _=km (p.lp.rel i) (kD (p.lp.b i) (p.lp.rel i))
 rw[h1,h2]
 unfold fw
 rcases sJ r.2.2 r.2.1 with k | k
 ·rw[if_pos k,k];unfold km;rw[if_pos rfl]
 ·rw[if_neg (by rw[k];decide),k]
theorem akQ{i:Nat}{r:List Rat×Int×Rat}(h:p.rows[i]? = some r):(fw r).2.2=p.lp.b i*(p.aI i:Rat):=by
 have e:=Prg.r6 h
 have h1:p.lp.rel i=r.2.1:=by show (p.row i).2.1=_;rw[e]
 have h2:p.lp.b i=r.2.2:=by show (p.row i).2.2=_;rw[e]
 show _=_*((kD (p.lp.b i) (p.lp.rel i):Int):Rat)
 rw[h1,h2]
 unfold fw
 rcases sJ r.2.2 r.2.1 with k | k
 ·rw[if_pos k,k];exact(Rat.mul_one _).symm
 ·rw[if_neg (by rw[k];decide),k]
  show -r.2.2=r.2.2 * -1
  grind
theorem akR{r:List Rat×Int×Rat}:(fw r).1.length=r.1.length:=by
 unfold fw;split <;> simp
theorem akS{i j:Nat}{r:List Rat×Int×Rat}{q:Rat}(h:p.rows[i]? = some r)(hj:r.1[j]? = some q):(fw r).1[j]? = some (p.lp.a i j*(p.aI i:Rat)):=by
 have e:=Prg.r6 h
 have h1:p.lp.rel i=r.2.1:=by show (p.row i).2.1=_;rw[e]
 have h2:p.lp.b i=r.2.2:=by show (p.row i).2.2=_;rw[e]
 have h3:p.lp.a i j=q:=by show fn (p.row i).1 j=_;rw[e];exact oN hj
 show _=some (_*((kD (p.lp.b i) (p.lp.rel i):Int):Rat))
 rw[h1,h2,h3]
 unfold fw
 rcases sJ r.2.2 r.2.1 with k | k
 ·rw[if_pos k,k,hj]
  show some q=some (q*1)
  rw[Rat.mul_one]
 ·rw[if_neg (by rw[k];decide),k]
  show (r.1.map (fun q=> -q))[j]? = some (q * -1)
  rw[List.getElem?_map,hj]
  show some (-q)=some (q * -1)
  rw[show -q=q * -1 from by grind]
end
end Go.aq
