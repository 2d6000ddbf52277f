/- Part 13 of the proof: Sl, Val2, Chk1, Dual, Rdual, So, Qq, SDat3. -/
import Derived.Test.YtfjncmjbhfdnpaaGreatA12
set_option linter.unusedVariables false
namespace Go.aw
open Go.Proofs Num Lp
theorem aaP{q:Rat}:ik q<0↔q<0:=by
 unfold ik;split
 ·simp[*]
 ·split <;> simp_all
theorem aaQ{q:Rat}:ik q≤0↔q≤0:=by
 unfold ik;split
 ·exact⟨fun _=>by grind,fun _=>by decide⟩
 ·split
  ·exact⟨fun _=>by grind,fun _=>by decide⟩
  ·exact⟨fun h=>absurd h (by decide),fun h=>by grind⟩
theorem ajU{p q:Rat}:wD p q<0↔p<q:=by
 unfold wD;split
 ·simp[*]
 ·split <;> simp_all
theorem ajV{p q:Rat}:wD p q=0↔p=q:=by
 unfold wD;split
 ·exact⟨fun h=>absurd h (by decide),fun h=>by grind⟩
 ·split
  ·simp[*]
  ·exact⟨fun h=>absurd h (by decide),fun h=>by grind⟩
structure Jw where
 i:Nat
 z:Int
 t:RC
def Jy(M:Nat→Nat→Rat)(B:Nat→Nat)(n c:Nat)(K:Heap)(y:Jw):Prop:=(y.z = -1∧∀i,i<y.i→M i c≤0)∨∃(r:Nat)(q:Rat),y.z=(r:Int)∧r<y.i∧0<M r c∧bK K y.t.v q∧m6 M B n c y.i r q
theorem ajW{M:Nat→Nat→Rat}{B:Nat→Nat}{n c:Nat}{K K':Heap}{y:Jw}(h:Jy M B n c K y)(hl:Heap.le K K')(hk:M y.i c≤0):Jy M B n c K' ⟨y.i+1,y.z,y.t⟩:=by
 rcases h with ⟨h1,h2⟩ | ⟨r,q,h1,h2,h3,h4,h5⟩
 ·refine .inl ⟨h1,fun i hi=> ?_⟩
  by_cases e:i=y.i
  ·rw[e];exact hk
  ·exact h2 i (by have:i<y.i+1:=hi;omega)
 ·exact .inr ⟨r,q,h1,Nat.lt_succ_of_lt h2,h3,h4.le hl,aat h5 hk⟩
def SvP(M:Nat→Nat→Rat)(B:Nat→Nat)(n c m:Nat)(z:Int):Prop:=(z = -1∧∀i,i<m→M i c≤0)∨∃r:Nat,z=(r:Int)∧r<m∧0<M r c∧∃q,m6 M B n c m r q
def EnP(M:Nat→Nat→Rat)(R u:Nat)(z:Int):Prop:=(z = -1∧∀j,j<u→0≤M R j)∨∃s:Nat,z=(s:Int)∧s<u∧M R s<0∧∀j,j<s→0≤M R j
theorem ajX{H:Heap}{G:GG}{R W m N u:Nat}{M:Nat→Nat→Rat}{B:Nat→Nat}(h:cA iQ H G (R+1) W m M B)(hu:u≤W)(hz:∀j,j<u→aP (M R j)≤N)(hN:(N:Int)≤200000000000)(hR:(R:Int)≤1000000)(hW:(W:Int)≤1000000):
 Fn Tryz.prog 142 #[.agg #[.slice G.Ar (R+1) G.cr,G.bv],.int .i64 (u:Int)] H (fun v H'=>∃z,v = .int .i64 z∧Kept G.gs H H'∧EnP M R u z):=by
 obtain⟨pr,cW⟩:=h.get (Nat.lt_succ_self R)
 obtain⟨Ab,cb,dr,fY⟩:=h.sZ
 rw[dr]
 obtain⟨xr0,sr0,tu,Ja⟩:=h.rB cW;refine aZ (args:=[_,_]) Tryz.func142 rfl rfl Tryz.ntmps142 rfl rfl fun w0=> ?_;refine aj [0,1] rfl ?_;refine ag (bW rfl rfl (ab 1 rfl (ae [1,2] ?_)));refine ag (ab 5 rfl (cY rfl rfl ⟨by omega,by omega⟩ (aS ah rfl rfl rfl rfl rfl (h.hd) (by rw[show (((R+1:Nat):Int)-1).toNat=R by omega];exact kE (rg:=G.rg) (W:=_) cW) (by omega) (by omega) fun _=> ?_)));refine ab 1 rfl (ae [1,5] ?_);refine aq (ag (ab 1 rfl (ae [1,5,6] ?_)));refine aG (gK (fun(k:Nat)=>u-k) (fun(k:Nat)=>put (put (put (emp) 1 (.val (.int .i64 (u:Int)))) 5 (.val (.slice (some ⟨pr.1,0,none⟩) W pr.2))) 6 (.val (.int .i64 (k:Int)))) (fun(k:Nat) H'=>Kept G.gs H H'∧k≤u∧∀j,j<k→0≤M R j) 0 (⟨.refl _ _,Nat.zero_le _,fun j hj=>absurd hj (Nat.not_lt_zero _)⟩) au ?_);rintro k H1 ⟨gI,LF,iU⟩;have P7:=(gI.same _ (GG.kQ (GG.gP cW))).trans tu;have h1:=h.kept gI;refine aq (ag (ab 3 rfl (ae [1,5,6,17] ?_)));refine aD rfl (fun hb=> ?_) (fun hb=> ?_)
 ·
  have aaR:k<u:=by simpa using hb
  obtain⟨t1,zZ,iF⟩:=mB Ja (show k<W by omega);have pb:=hz k aaR;refine aA (aj [1,5,6] rfl ?_);refine aq (aG (ag (ab 2 rfl (ck (vs:=[.bool t1.f,.slice t1.A1 t1.m1 t1.c1,.slice t1.A2 t1.m2 t1.c2]) ah rfl rfl rfl rfl (dW P7) rfl (by decide) (by rw[Int.toNat_natCast];exact iF) (by omega) (by omega) fun _=> ?_))));refine aF rfl rfl (Fn.mg h1.ne (xE (bK.raw (zZ.le gI.le)) (by omega))) ?_;rintro v2 H2 ⟨fO,dC,rfl⟩;refine ab 1 rfl (ae [1,5,6,25] ?_);refine aD rfl (fun hb=> ?_) (fun hb=> ?_)
  ·
   have hb:M R k<0:=aaP.1 (by simpa using hb);refine ag (ab 2 rfl (ae [4] ?_));refine aE ⟨.inr rfl,_,.tmp rfl (.nil),?_⟩;exact⟨_,rfl,gI.trans fO,.inr ⟨k,rfl,aaR,hb,iU⟩⟩
  ·
   have hb:¬M R k<0:=fun h9=>by have:=aaP.2 h9;simp at hb;omega
   refine aA (aj [1,5,6] rfl ?_);refine aC rfl (ab 1 rfl (aH rfl rfl ⟨by omega,by omega⟩ (ab 1 rfl (az ?_))))
   exact⟨k+1,by omega,au,gI.trans fO,by omega,fun j hj=>by
    by_cases ej:j=k
    ·subst ej;grind
    ·exact iU j (by omega)⟩
 ·
  have hb:u≤k:=by simpa using hb
  obtain rfl:k=u:=by omega
  refine aW (aj [] rfl ?_);refine ag (ab 1 rfl (ae [4] ?_));refine aE ⟨.inr rfl,_,.tmp rfl (.nil),?_⟩;exact⟨_,rfl,gI,.inl ⟨rfl,iU⟩⟩
theorem ajY{H:Heap}{G:GG}{R W m N:Nat}{M:Nat→Nat→Rat}{B:Nat→Nat}{c:Nat}(h:cA iQ H G R W m M B)(SW:m≤R)(hc:c<W)(hz:∀i,i<m→∀j,j<W→aP (M i j)≤N)(hN:(N:Int)≤200000000000)(hR:(R:Int)≤1000000)(hW:(W:Int)≤1000000):
 Fn Tryz.prog 143 #[.agg #[.slice G.Ar (R) G.cr,G.bv],.int .i64 (c:Int)] H (fun v H'=>∃z,v = .int .i64 z∧Kept G.gs H H'∧SvP M B (W-1) c m z):=by
 obtain⟨Ab,cb,dr,fY⟩:=h.sZ
 have mG:∀{H':Heap},Kept G.gs H H'→∀i,i<m→Rd H' Ab (eL B m):=fun k i hi=>fY (t:=G.top) (h.kept k) i hi
 rw[dr];refine aZ (args:=[_,_]) Tryz.func143 rfl rfl Tryz.ntmps143 rfl rfl fun w0=> ?_;refine aj [0,1] rfl ?_;refine ag (bW rfl rfl (ab 1 rfl (ae [1,2] ?_)));refine ag (de ah rfl bZ rfl rfl (bn bZ rfl (vr 1 ?_)));obtain⟨ti,ak,al⟩:=a6;refine aI (.inl ⟨rfl,rfl⟩) rfl rfl rfl ak al rfl rfl rfl (ae [1,2,5,6] ?_);refine aq (ag (ab 4 rfl (ae [1,2,5,6,14,15] ?_)));refine aG (gK (fun(y:Jw)=>m-y.i) (fun(y:Jw)=>put (put (put (put (put (put (emp) 1 (.val (.int .i64 (c:Int)))) 2 (.box [.slice G.Ar R G.cr,.slice Ab m cb])) 5 (.val (.int .i64 y.z))) 6 (.box [.bool y.t.f,.slice y.t.A1 y.t.m1 y.t.c1,.slice y.t.A2 y.t.m2 y.t.c2])) 14 (.val (.int .i64 (m:Int)))) 15 (.val (.int .i64 (y.i:Int)))) (fun(y:Jw) H'=>Kept G.gs H H'∧y.i≤m∧Jy M B (W-1) c (rem H' G.gs) y) ⟨0,-1,⟨false,none,0,0,none,0,0⟩⟩ (⟨.refl _ _,Nat.zero_le _,.inl ⟨rfl,fun i hi=>absurd hi (Nat.not_lt_zero _)⟩⟩) au ?_);rintro y H2 ⟨fO,hym,hI⟩;have h2:=h.kept fO;refine ag (ab 1 rfl (ae [1,2,5,6,14,15,16] ?_));refine aq (aD rfl (fun hb=> ?_) (fun hb=> ?_))
 ·
  have aU:y.i<m:=by simpa using hb
  obtain⟨pi,cU⟩:=h2.get (show y.i<R by omega);obtain⟨xi,si,sS,xU⟩:=h2.rB cU;obtain⟨t1,zZ,iF⟩:=mB xU hc;obtain⟨t2,fj,nz⟩:=mB xU (show W-1<W by omega);have pb:=hz y.i aU c hc;have oZ:=hz y.i aU (W-1) (by omega);refine aA (aj [1,2,5,6,14,15] rfl ?_);refine aq (aG (ag (ab 2 rfl (ae [1,2,5,6,7,14,15] ?_))));refine aq (ag (ab 3 rfl (aS ah rfl rfl rfl rfl rfl (h2.hd) (by rw[Int.toNat_natCast];exact kE (rg:=G.rg) (W:=_) cU) (by omega) (by omega) fun _=> ?_)));refine ab 1 rfl (ck (vs:=[.bool t1.f,.slice t1.A1 t1.m1 t1.c1,.slice t1.A2 t1.m2 t1.c2]) ah rfl rfl rfl rfl (dW sS) rfl (by decide) (by rw[Int.toNat_natCast];exact iF) (by omega) (by omega) fun _=> ?_);refine aF rfl rfl (Fn.mg h2.ne (xE (bK.raw zZ) (by omega))) ?_;rintro v3 H3 ⟨dy,gN,rfl⟩;have h3:=h2.kept dy;have IX:=fO.trans dy;have aaS:=(dy.same _ (GG.kQ (GG.gP cU))).trans sS;refine ab 1 rfl (ae [1,2,5,6,7,14,15,27] ?_);refine aD rfl (fun hb=> ?_) (fun hb=> ?_)
  ·
   have hb:M y.i c≤0:=aaQ.1 (by simpa using hb);refine aW (aj [1,2,5,6,14,15] rfl ?_);refine aC rfl (aH rfl rfl ⟨by omega,by omega⟩ (ab 1 rfl (az ?_)));exact⟨⟨y.i+1,y.z,y.t⟩,(show m-(y.i+1)<m-y.i by omega),au,IX,(show y.i+1≤m by omega),ajW hI dy.le hb⟩
  ·
   have fH:0<M y.i c:=by
    have h9:¬M y.i c≤0:=fun h9=>by have:=aaQ.2 h9;simp at hb;omega
    grind
   refine aA (aj [1,2,5,6,7,14,15] rfl ?_);refine bP .bJ [0,1,2,3,4,5,6,7,8,9,10,11,12,13,14,15,16,17,18,19,20,21,22,23,24,25,26,27,28] follows (ia [0,1,0,7,15,0,32,0,224,480,992,2016,4095,8191,0,16384,0,114688,245760,0,1032192,2080768,4194303,8388607,16777215,16777215,0,100663295,268435455] (by kernel_rfl)) ?_;refine ab 3 rfl (aS ah rfl rfl rfl rfl rfl (h3.hd) (by rw[Int.toNat_natCast];exact kE (rg:=G.rg) (W:=_) cU) (by omega) (by omega) fun _=> ?_);refine ab 3 rfl (aS ah rfl rfl rfl rfl rfl (h3.hd) (by rw[Int.toNat_natCast];exact kE (rg:=G.rg) (W:=_) cU) (by omega) (by omega) fun _=> ?_);refine ab 1 rfl (cY rfl rfl ⟨by omega,by omega⟩ (ck (vs:=[.bool t2.f,.slice t2.A1 t2.m1 t2.c1,.slice t2.A2 t2.m2 t2.c2]) ah rfl rfl rfl rfl (dW aaS) rfl (by decide) (by rw[show ((W:Int)-1).toNat=W-1 by omega];exact nz) (by omega) (by omega) fun _=> ?_));refine ab 3 rfl (aS ah rfl rfl rfl rfl rfl (h3.hd) (by rw[Int.toNat_natCast];exact kE (rg:=G.rg) (W:=_) cU) (by omega) (by omega) fun _=> ?_);refine ab 1 rfl (ck (vs:=[.bool t1.f,.slice t1.A1 t1.m1 t1.c1,.slice t1.A2 t1.m2 t1.c2]) ah rfl rfl rfl rfl (dW aaS) rfl (by decide) (by rw[Int.toNat_natCast];exact iF) (by omega) (by omega) fun _=> ?_)
   refine a8 rfl rfl (Fn.frame h3.ne (QL (N:=N) ((bK.raw (fj.le dy.le)).mono (by omega)) ((bK.raw (zZ.le dy.le)).mono (by omega)) (by omega))) (fun _ _ h=>h.le fun _ _ h=>h.1) ?_;rintro _ H8 uA;have rj:Kept G.gs H3 H8:= .of uA fun v K hp=>hp.1;obtain⟨_,w8,rfl,ft⟩:=uA.post;obtain⟨t8,rfl⟩:=ft.rc;have aaT:=IX.trans rj;have h8:=h.kept aaT;have R0:=Eb (M y.i (W-1)) (M y.i c)
   replace hI:Jy M B (W-1) c (rem H8 G.gs) y:=by
    rcases hI with h9 | ⟨r,q,h9,h5,h6,h7,h8⟩
    ·exact .inl h9
    ·exact .inr ⟨r,q,h9,h5,h6,(h7.le dy.le).le rj.le,h8⟩
   refine ab 3 rfl (bn bZ rfl ?_);obtain⟨ti,ak,al⟩:=a6;refine aI (.inl ⟨rfl,rfl⟩) rfl rfl rfl ak al rfl rfl rfl (ab 1 rfl (ae [1,2,5,6,7,8,14,15] ?_));refine ag (ab 1 rfl (ae [1,2,5,6,7,8,10,14,15] ?_));refine kI (fun(s:Int)=>put (put (put (put (put (put (put (put (put (emp) 1 (.val (.int .i64 (c:Int)))) 2 (.box [.slice G.Ar R G.cr,.slice Ab m cb])) 5 (.val (.int .i64 y.z))) 6 (.box [.bool y.t.f,.slice y.t.A1 y.t.m1 y.t.c1,.slice y.t.A2 y.t.m2 y.t.c2])) 7 (.val (.int .i64 (y.i:Int)))) 8 (.box [.bool t8.f,.slice t8.A1 t8.m1 t8.c1,.slice t8.A2 t8.m2 t8.c2])) 10 (.val (.int .i64 s))) 14 (.val (.int .i64 (m:Int)))) 15 (.val (.int .i64 (y.i:Int)))) (fun(s:Int) H'=>Kept G.gs H8 H'∧((y.z = -1∧s = -1∧∀i,i<y.i→M i c≤0)∨∃(r:Nat)(q:Rat),y.z=(r:Int)∧r<y.i∧0<M r c∧bK (rem H8 G.gs) y.t.v q∧m6 M B (W-1) c y.i r q∧(s<0↔M y.i (W-1)/M y.i c<q)∧(s=0↔M y.i (W-1)/M y.i c=q))) ?_ ?_
   ·
    refine ag (ab 2 rfl (ae [1,2,5,6,7,8,10,14,15,55] ?_));refine aD rfl (fun hb=> ?_) (fun hb=> ?_)
    ·
     have hb:0≤y.z:=by simpa using hb
     obtain⟨r,q,ez,xV,cW,nH,hL⟩:∃(r:Nat)(q:Rat),y.z=(r:Int)∧r<y.i∧0<M r c∧bK (rem H8 G.gs) y.t.v q∧m6 M B (W-1) c y.i r q:=by
      rcases hI with ⟨ez,_⟩ | h9
      ·omega
      ·exact h9
     have hzq:aP q≤2*N:=by
      rw[hL.1];have:=Eb (M r (W-1)) (M r c);have:=hz r (by omega) c hc;have:=hz r (by omega) (W-1) (by omega)
      omega
     refine aC rfl (ab 2 rfl (aF rfl rfl (Fn.mg h8.ne (Yh (N:=2*N) ((bK.raw ft).mono (by omega)) ((bK.raw nH).mono (by omega)) (by omega))) ?_));rintro v9 H9 ⟨gZ,iJ,rfl⟩;refine ab 1 rfl (az ?_);exact⟨_,au,gZ,.inr ⟨r,q,ez,xV,cW,nH,hL,ajU,ajV⟩⟩
    have hb:y.z<0:=by simpa using hb
    refine aA ?_
    skip
    rcases hI with ⟨ez,iU⟩ | ⟨r,q,ez,_⟩
    ·exact⟨_,au,.refl _ _,.inl ⟨ez,rfl,iU⟩⟩
    ·omega
   rintro s H9 ⟨Fe,hs⟩;have gZ:=aaT.trans Fe;have h9:=h.kept gZ;obtain⟨ez,es,iU⟩ | ⟨r,q,ez,xV,cW,nH,hL,eT,CF⟩:=hs
   ·
    skip
    refine bP .bJ [0,1,2,3,4,5,6,7,8,9,10,11,12,13,14,15,16,17,18] follows (ia [0,1,3,7,15,31,63,127,63,511,1023,63,2111,63,14399,30783,65535,131071,262143] (by kernel_rfl)) ?_;refine ab 1 rfl (aJ true rfl rfl (jS (by omega)) (ab 17 rfl (ae [1,2,5,6,7,8,14,15,77] ?_)));refine dJ rfl (ep .bJ [0,1,2,3] follows (by kernel_rfl) ?_);refine vr 3 ?_;obtain⟨ti,ak,al⟩:=a6;refine aI (.inl ⟨rfl,rfl⟩) rfl rfl rfl ak al rfl rfl rfl (az (aj [1,2,5,6,14,15] rfl ?_));refine aC rfl (aH rfl rfl ⟨by omega,by omega⟩ (ab 1 rfl (az ?_)));exact⟨⟨y.i+1,y.i,t8⟩,(show m-(y.i+1)<m-y.i by omega),au,gZ,(show y.i+1≤m by omega),.inr ⟨y.i,_,rfl,Nat.lt_succ_self _,fH,ft.le Fe.le,aau iU rfl⟩⟩
   skip
   by_cases g1:s<0
   ·
    skip
    refine bP .bJ [0,1,2,3,4,5,6,7,8,9,10,11,12,13,14,15,16,17,18] follows (ia [0,1,3,7,15,31,63,127,63,511,1023,63,2111,63,14399,30783,65535,131071,262143] (by kernel_rfl)) ?_;refine ab 1 rfl (aJ true rfl rfl (jS g1) (ab 17 rfl (ae [1,2,5,6,7,8,14,15,77] ?_)));refine dJ rfl (ep .bJ [0,1,2,3] follows (by kernel_rfl) ?_);refine vr 3 ?_;obtain⟨ti,ak,al⟩:=a6;refine aI (.inl ⟨rfl,rfl⟩) rfl rfl rfl ak al rfl rfl rfl (az (aj [1,2,5,6,14,15] rfl ?_));refine aC rfl (aH rfl rfl ⟨by omega,by omega⟩ (ab 1 rfl (az ?_)));exact⟨⟨y.i+1,y.i,t8⟩,(show m-(y.i+1)<m-y.i by omega),au,gZ,(show y.i+1≤m by omega),.inr ⟨y.i,_,rfl,Nat.lt_succ_self _,fH,ft.le Fe.le,M0 hL rfl (.inl (eT.1 g1))⟩⟩
   skip
   by_cases g2:s=0
   ·
    skip
    by_cases g3:B y.i<B r
    ·
     skip
     refine bP .bJ [0,1,2,3,4,5,6,7,8,9,10,11,12,13,14,15,16,17,18] follows (ia [0,1,3,7,15,31,63,127,63,511,1023,63,2111,63,14399,30783,65535,131071,262143] (by kernel_rfl)) ?_;refine ab 1 rfl (aJ false rfl rfl (iC (by omega)) (ab 2 rfl (aJ true rfl rfl (jR g2) (ab 4 rfl (aS ah rfl rfl rfl rfl rfl (mG gZ y.i aU) (by rw[Int.toNat_natCast];exact gO aU) (by omega) (by omega) fun _=> ?_)))));refine ab 3 rfl (aS ah rfl rfl rfl rfl rfl (mG gZ y.i aU) (by rw[ez,Int.toNat_natCast];exact gO (by omega)) (by omega) (by omega) fun _=> ?_);refine aJ true rfl rfl (jS (by omega)) (ab 2 rfl (ae [1,2,5,6,7,8,14,15,77] ?_));refine dJ rfl (ep .bJ [0,1,2,3] follows (by kernel_rfl) ?_);refine vr 3 ?_;obtain⟨ti,ak,al⟩:=a6;refine aI (.inl ⟨rfl,rfl⟩) rfl rfl rfl ak al rfl rfl rfl (az (aj [1,2,5,6,14,15] rfl ?_));refine aC rfl (aH rfl rfl ⟨by omega,by omega⟩ (ab 1 rfl (az ?_)));exact⟨⟨y.i+1,y.i,t8⟩,(show m-(y.i+1)<m-y.i by omega),au,gZ,(show y.i+1≤m by omega),.inr ⟨y.i,_,rfl,Nat.lt_succ_self _,fH,ft.le Fe.le,M0 hL rfl (.inr ⟨CF.1 g2,g3⟩)⟩⟩
    skip
    refine bP .bJ [0,1,2,3,4,5,6,7,8,9,10,11,12,13,14,15,16,17,18] follows (ia [0,1,3,7,15,31,63,127,63,511,1023,63,2111,63,14399,30783,65535,131071,262143] (by kernel_rfl)) ?_;refine ab 1 rfl (aJ false rfl rfl (iC (by omega)) (ab 2 rfl (aJ true rfl rfl (jR g2) (ab 4 rfl (aS ah rfl rfl rfl rfl rfl (mG gZ y.i aU) (by rw[Int.toNat_natCast];exact gO aU) (by omega) (by omega) fun _=> ?_)))));refine ab 3 rfl (aS ah rfl rfl rfl rfl rfl (mG gZ y.i aU) (by rw[ez,Int.toNat_natCast];exact gO (by omega)) (by omega) (by omega) fun _=> ?_);refine aJ false rfl rfl (iC (by omega)) (ab 2 rfl (ae [1,2,5,6,7,8,14,15,77] ?_));refine dR rfl (aA (aj [1,2,5,6,14,15] rfl ?_));refine aC rfl (aH rfl rfl ⟨by omega,by omega⟩ (ab 1 rfl (az ?_)));exact⟨⟨y.i+1,y.z,y.t⟩,(show m-(y.i+1)<m-y.i by omega),au,gZ,(show y.i+1≤m by omega),.inr ⟨r,q,ez,Nat.lt_succ_of_lt xV,cW,nH.le Fe.le,MZ hL rfl (.inr ⟨CF.1 g2,g3⟩)⟩⟩
   skip
   refine bP .bJ [0,1,2,3,4,5,6,7,8,9,10,11,12,13,14,15,16,17,18] follows (ia [0,1,3,7,15,31,63,127,63,511,1023,63,2111,63,14399,30783,65535,131071,262143] (by kernel_rfl)) ?_;refine ab 1 rfl (aJ false rfl rfl (iC (by omega)) (ab 2 rfl (aJ false rfl rfl (lD g2) (ab 14 rfl (ae [1,2,5,6,7,8,14,15,77] ?_)))));refine dR rfl (aA (aj [1,2,5,6,14,15] rfl ?_));refine aC rfl (aH rfl rfl ⟨by omega,by omega⟩ (ab 1 rfl (az ?_)));exact⟨⟨y.i+1,y.z,y.t⟩,(show m-(y.i+1)<m-y.i by omega),au,gZ,(show y.i+1≤m by omega),.inr ⟨r,q,ez,Nat.lt_succ_of_lt xV,cW,nH.le Fe.le,MZ hL rfl (.inl (by have k1:¬M y.i (W-1)/M y.i c<q:=fun k=>g1 (eT.2 k);have k2:¬M y.i (W-1)/M y.i c=q:=fun k=>g2 (CF.2 k);grind))⟩⟩
 ·
  have aU:m≤y.i:=by simpa using hb
  have aU:y.i=m:=by omega
  refine aW (aj [5] rfl ?_);refine ag (ab 2 rfl (ae [4] ?_));refine aE ⟨.inr rfl,_,.tmp rfl (.nil),?_⟩;refine⟨y.z,rfl,fO,?_⟩;have h2:=hI
  unfold Jy at h2
  rw[aU]at h2
  rcases h2 with h9 | ⟨r,q,k1,k2,k3,_,k5⟩
  ·exact .inl h9
  ·exact .inr ⟨r,k1,k2,k3,q,k5⟩
theorem aaU{H:Heap}{G:GG}{W m u N:Nat}{M:Nat→Nat→Rat}{B:Nat→Nat}{Φ:ar→Prop}{x:ar}(h:cA iQ H G (m+1) W m M B)(hu:u<W)(hm:(m:Int)≤900000)(hW:(W:Int)≤1000000)(dS:∀T r s,Φ T→T.pz u r s→Φ (T.pivot r s))(hx:Φ x)(hr:ib M B x m W)(FM:Acc (ar.Step u) x)(hB:∀i,i<m→B i<W)(hz:∀T,Φ T→∀j,j<W→aP (T.c j)≤N∧∀i,i<m→aP (T.A i j)≤N)(hN:(N:Int)≤200000000000):
 Fn Tryz.prog 66 #[.agg #[.slice G.Ar (m+1) G.cr,G.bv],.int .i64 (u:Int)] H (fun v H'=>∃M' B' b T,v = .bool b∧cA iQ H' G (m+1) W m M' B'∧Heap.le (rem H G.gs) (rem H' G.gs)∧Φ T∧ib M' B' T m W∧(∀i,i<m→B' i<W)∧(b=true→∀j,j<u→0≤M' m j)∧(b=false→∃s,s<u∧M' m s<0∧∀i,i<m→M' i s≤0)):=by
 have x8:∀{M1:Nat→Nat→Rat}{B1:Nat→Nat}{T:ar},Φ T→ib M1 B1 T m W→∀i,i<m+1→∀j,j<W→aP (M1 i j)≤N:=fun{M1 B1 T} hT hr i hi j hj=>by
  by_cases e:i=m
  ·rw[e,hr.ec j hj];exact(hz T hT j hj).1
  ·rw[hr.eA i (by omega) j hj];exact(hz T hT j hj).2 i (by omega)
 refine aZ (args:=[_,_]) Tryz.func66 rfl rfl Tryz.ntmps66 rfl rfl fun w0=> ?_;refine aj [0,1] rfl ?_;refine ag (bW rfl rfl (ab 1 rfl (ae [1,2] ?_)));refine aG (Kj (γ:=ar) (ar.Step u) (fun(y:ar)=>put (put (emp) 1 (.val (.int .i64 (u:Int)))) 2 (.box [.slice G.Ar (m+1) G.cr,G.bv])) (fun(y:ar) H'=>∃M1 B1,cA iQ H' G (m+1) W m M1 B1∧Heap.le (rem H G.gs) (rem H' G.gs)∧Φ y∧ib M1 B1 y m W∧∀i,i<m→B1 i<W) (x) (FM) au (⟨M,B,h,.refl _,hx,hr,hB⟩) ?_);rintro y H1 ⟨M1,B1,h1,fm,th,jd,zR⟩;have pb:=x8 th jd;refine aG (ag (ab 2 rfl (aF rfl rfl (ajX h1 (by omega) (fun j hj=>pb m (by omega) j (by omega)) hN (by omega) hW) ?_)));rintro _ H2 ⟨z,rfl,fO,hE⟩;have h2:=h1.kept fO;refine ab 1 rfl (ae [1,2,5] ?_);refine aq (ag (ab 2 rfl (ae [1,2,5,11] ?_)));refine aD rfl (fun hb=> ?_) (fun hb=> ?_)
 ·
  have hb:z<0:=by simpa using hb
  obtain⟨_,iU⟩:z = -1∧∀j,j<u→0≤M1 m j:=by
   rcases hE with h9 | ⟨s,h9,_⟩
   ·exact h9
   ·omega
  refine ag (ab 1 rfl (ae [4] ?_));refine aE ⟨.inr rfl,_,.tmp rfl (.nil),?_⟩;exact⟨M1,B1,true,y,rfl,h2,fm.trans fO.le,th,jd,zR,fun _=>iU,(fun h9=>by cases h9)⟩
 ·
  have hb:¬z<0:=by simpa using hb
  obtain⟨s,rfl,Jk,mQ,SY⟩:∃s:Nat,z=(s:Int)∧s<u∧M1 m s<0∧∀j,j<s→0≤M1 m j:=by
   rcases hE with ⟨h9,_⟩ | h9
   ·omega
   ·exact h9
  refine aA (aj [1,2,5] rfl ?_);refine ag (ab 2 rfl (aF rfl rfl (ajY h2 (by omega) (show s<W by omega) (fun i hi j hj=>pb i (by omega) j hj) hN (by omega) hW) ?_));rintro _ H3 ⟨z3,rfl,dy,Jl⟩;have h3:=h2.kept dy;refine ab 1 rfl (ae [1,2,5,6] ?_);refine aq (ag (ab 2 rfl (ae [1,2,5,6,16] ?_)));refine aD rfl (fun hb=> ?_) (fun hb=> ?_)
  ·
   have hb:z3<0:=by simpa using hb
   have iU:∀i,i<m→M1 i s≤0:=by
    rcases Jl with h9 | ⟨r,h9,_⟩
    ·exact h9.2
    ·omega
   refine ag (ab 1 rfl (ae [4] ?_));refine aE ⟨.inr rfl,_,.tmp rfl (.nil),?_⟩;exact⟨M1,B1,false,y,rfl,h3,(fm.trans fO.le).trans dy.le,th,jd,zR,(fun h9=>by cases h9),fun _=>⟨s,Jk,mQ,iU⟩⟩
  have hb:¬z3<0:=by simpa using hb
  obtain⟨r,rfl,kf,cW,q,hL⟩:∃r:Nat,z3=(r:Int)∧r<m∧0<M1 r s∧∃q,m6 M1 B1 (W-1) s m r q:=by
   rcases Jl with ⟨h9,_⟩ | h9
   ·omega
   ·exact h9
  have kL:=jd.GL (by omega) Jk mQ SY kf cW hL;have so:=x8 (dS _ _ _ th kL) (jd.pivot (M':=mz M1 r s) kf (by omega) fun _ _ _ _=>rfl);refine aA (aj [1,2,5,6] rfl ?_);refine aC rfl (ab 3 rfl (aF rfl rfl (aaM h3 kf (by omega) (show s<W by omega) (by grind) pb so hN (by omega) hW) ?_));rintro v4 H4 ⟨M4,h4,hM4,kM⟩;refine az ?_
  exact⟨y.pivot r s,⟨r,s,kL,rfl⟩,au,M4,_,h4,((fm.trans fO.le).trans dy.le).trans kM,dS _ _ _ th kL,jd.pivot kf (by omega) hM4,fun i hi=>by
   show (if i=r then s else B1 i)<W
   split
   ·omega
   ·exact zR i hi⟩
end Go.aw
namespace Go.aw
open Go.Proofs Num Lp
theorem aaV{H:Heap}{v:Value}{p:Prg}{N:Nat}(hp:ea N H v p):
 Fn Tryz.prog 46 #[v] H (fun v H'=>H'=H∧∃b,v = .bool b∧(b=true↔p.Ok)):=by
 obtain⟨fv,fL,rfl,dO,eo⟩:=hp
 obtain⟨Af,cf,xf,rfl,iv,gS⟩:=dO.one
 obtain⟨Ar,cr,xr,rfl,eJ,gE⟩:=eo.row;refine aZ (args:=[_]) Tryz.func46 rfl rfl Tryz.ntmps46 rfl rfl fun w0=> ?_;refine aj [0] rfl ?_;refine ag (bW rfl rfl (ab 1 rfl (ae [1] ?_)));refine aq ?_
 by_cases h1:400<(p.free.length:Int)
 ·
  skip
  refine ag (ab 3 rfl (aJ true rfl rfl (mI h1) (ab 6 rfl (ae [1,14] ?_))));refine dJ rfl (ag (ab 1 rfl (ae [2] ?_)));refine aE ⟨.inr rfl,_,.tmp rfl (.nil),?_⟩;exact⟨rfl,false,rfl,⟨(fun h=>by cases h),(fun h=>by have h8:=h.iG;have h9:=h.rows;omega)⟩⟩
 ·
  skip
  by_cases h2:800<(p.rows.length:Int)
  ·
   skip
   refine ag (ab 3 rfl (aJ false rfl rfl (iW (by omega)) (ab 4 rfl (aJ true rfl rfl (mI h2) (ab 1 rfl (ae [1,14] ?_))))));refine dJ rfl (ag (ab 1 rfl (ae [2] ?_)));refine aE ⟨.inr rfl,_,.tmp rfl (.nil),?_⟩;exact⟨rfl,false,rfl,⟨(fun h=>by cases h),(fun h=>by have h8:=h.iG;have h9:=h.rows;omega)⟩⟩
  skip
  refine ag (ab 3 rfl (aJ false rfl rfl (iW (by omega)) (ab 4 rfl (aJ false rfl rfl (iW (by omega)) (ab 1 rfl (ae [1,14] ?_))))));refine dR rfl (aA (aj [1] rfl ?_));refine aq (ag (ab 4 rfl (ae [1,17,18] ?_)));refine aG (gK (fun(i:Nat)=>p.rows.length-i) (fun(i:Nat)=>put (put (put (emp) 1 (.box [.slice Af p.free.length cf,.slice Ar p.rows.length cr])) 17 (.val (.int .i64 (p.rows.length:Int)))) 18 (.val (.int .i64 (i:Int)))) (fun(i:Nat) H'=>H'=H∧(∀(k:Nat)(r:List Rat×Int×Rat),k<i→p.rows[k]? = some r→PX p.free.length r)∧i≤p.rows.length) 0 (⟨rfl,(fun k r h=>by omega),Nat.zero_le _⟩) au ?_);rintro i H1 ⟨e1,mu,hi⟩;rw[e1];refine ag (ab 1 rfl (ae [1,17,18,19] ?_));refine aq (aD rfl (fun hb=> ?_) (fun hb=> ?_))
  ·
   have aU:i<p.rows.length:=by simpa using hb
   obtain⟨r,hr⟩:∃r,p.rows[i]? = some r:=⟨_,List.getElem?_eq_getElem aU⟩;obtain⟨A0,c0,f,A1,m1,c1,A2,m2,c2,mh,kC⟩:=gE i r hr;refine aA (aj [1,17,18] rfl ?_);refine aq (aG (ag (ab 2 rfl (ae [1,3,17,18] ?_))));refine ag (ab 3 rfl (ck (vs:=[.slice A0 r.1.length c0,.int .i64 r.2.1,.bool f,.slice A1 m1 c1,.slice A2 m2 c2]) ah rfl rfl rfl rfl eJ rfl (by decide) kC (by omega) (by omega) fun _=>(bn gL rfl ?_)));obtain⟨ti,ak,al⟩:=nY;refine aI (.inl ⟨rfl,rfl⟩) rfl rfl rfl ak al rfl rfl rfl (ae [1,4,17,18] ?_)
   by_cases h1:r.1.length=p.free.length
   ·
    skip
    by_cases h2:r.2.1<1
    ·
     skip
     refine ag (ab 6 rfl (aJ false rfl rfl (wq (by omega)) (ab 3 rfl (aJ true rfl rfl (jS h2) (ab 6 rfl (ae [1,17,18,42] ?_))))));refine dJ rfl (ag (ab 1 rfl (ae [2] ?_)));refine aE ⟨.inr rfl,_,.tmp rfl (.nil),?_⟩;exact⟨rfl,false,rfl,⟨(fun h=>by cases h),(fun h=>by have h9:=(h.row i r hr).2;omega)⟩⟩
    skip
    by_cases h3:3<r.2.1
    ·
     skip
     refine ag (ab 6 rfl (aJ false rfl rfl (wq (by omega)) (ab 3 rfl (aJ false rfl rfl (iC (by omega)) (ab 4 rfl (aJ true rfl rfl (mI h3) (ab 1 rfl (ae [1,17,18,42] ?_))))))));refine dJ rfl (ag (ab 1 rfl (ae [2] ?_)));refine aE ⟨.inr rfl,_,.tmp rfl (.nil),?_⟩;exact⟨rfl,false,rfl,⟨(fun h=>by cases h),(fun h=>by have h9:=(h.row i r hr).2;omega)⟩⟩
    skip
    refine ag (ab 6 rfl (aJ false rfl rfl (wq (by omega)) (ab 3 rfl (aJ false rfl rfl (iC (by omega)) (ab 4 rfl (aJ false rfl rfl (iW (by omega)) (ab 1 rfl (ae [1,17,18,42] ?_))))))));refine dR rfl (aA (aj [1,17,18] rfl ?_));refine aC rfl (aH rfl rfl ⟨by omega,by omega⟩ (ab 1 rfl (az ?_)));exact⟨i+1,by omega,au,rfl,(fun k r9 hk jt=>by by_cases h9:k<i;exact mu k r9 h9 jt;(obtain rfl:k=i:=by omega);rw[hr]at jt;cases jt;exact⟨by omega,by omega⟩),by omega⟩
   skip
   refine ag (ab 6 rfl (aJ true rfl rfl (u0 (by omega)) (ab 10 rfl (ae [1,17,18,42] ?_))));refine dJ rfl (ag (ab 1 rfl (ae [2] ?_)));refine aE ⟨.inr rfl,_,.tmp rfl (.nil),?_⟩;exact⟨rfl,false,rfl,⟨(fun h=>by cases h),(fun h=>by have h9:=(h.row i r hr).1;omega)⟩⟩
  have hb:p.rows.length≤i:=by simpa using hb
  refine aW (aj [] rfl ?_);refine ag (ab 1 rfl (ae [2] ?_));refine aE ⟨.inr rfl,_,.tmp rfl (.nil),?_⟩;exact⟨rfl,true,rfl,⟨fun _=>⟨by omega,by omega,fun k r hr=>mu k r (by have h9:=(List.getElem?_eq_some_iff.1 hr).1;omega) hr⟩,fun _=>rfl⟩⟩
end Go.aw
namespace Go.aw
open Go.Proofs Num Lp
theorem szc{n s N:Nat}(hn:n≤1000)(hs:s≤N+2)(hN:N≤400000000){k:Nat}(hk:k≤n):((k*(2*s+1)+1:Nat):Int)≤900000000000:=by
 have h1:k*(2*s+1)≤1000*(2*s+1):=Nat.mul_le_mul_right _ (by omega)
 omega
theorem Ns:aP 0≤1:=by decide
theorem aaW{H:Heap}{u v:Value}{l1 l2:List Rat}{N:Nat}(hu:aR (bR N) 3 H u l1)(hv:aR (bR N) 3 H v l2)(hl:l1.length=l2.length)(hn:l1.length≤1000)(hN:N≤400000000):
 Fn Tryz.prog 64 #[u,v] H (MK H (bN l1.length (fn l1) (fn l2))):=by
 have h1:=hu.I1
 have h2:=hv.I1
 obtain⟨A,c,ys,rfl,hc,hr,iI⟩:=hu
 obtain⟨A',c',ys',rfl,jO,dU,ajZ⟩:=hv
 have DW:=afK (f:=fn l1) (g:=fn l2) (s:=N+2) (n:=l1.length) (fun k hk=>⟨WZ h1 hk,WZ h2 (by omega)⟩)
 rw[←hl];refine aZ (args:=[_,_]) Tryz.func64 rfl rfl Tryz.ntmps64 rfl rfl fun w0=> ?_;refine aj [0,1] rfl ?_;refine ag (bn bZ rfl (ae [0,1,4] ?_));refine ag (aF rfl rfl ((qZ (n:=0) (by decide) (by decide)).rc) ?_);rintro _ H1 ⟨cH,t1,rfl,cC⟩;rw[show ((0:Int):Rat)=0 from rfl]at cC;refine bn bZ rfl ?_;obtain⟨ti,ak,al⟩:=a6;refine aI (.inl ⟨rfl,rfl⟩) rfl rfl rfl ak al rfl rfl rfl (ae [0,1,4,5] ?_);refine aq (ag (ab 1 rfl (ae [0,1,4,5,6] ?_)));refine aG (ij (fun(i:Nat)(t:RC)=>l1.length-i) (fun(i:Nat)(t:RC)=>put (put (put (put (put (emp) 0 (.val (.slice A l1.length c))) 1 (.val ((.slice A' l1.length c')))) 4 (.box [.bool false,.slice none 0 0,.slice none 0 0])) 5 (.box [.bool t.f,.slice t.A1 t.m1 t.c1,.slice t.A2 t.m2 t.c2])) 6 (.val (.int .i64 (i:Int)))) (fun(i:Nat)(t:RC) H'=>Heap.le H H'∧bK H' t.v (bN i (fn l1) (fn l2))∧i≤l1.length) 0 t1 (⟨cH,cC,Nat.zero_le _⟩) au ?_);rintro i t H2 ⟨dC,bO,hi⟩;refine aq (ag (ab 5 rfl (Vv rfl rfl ?_)));rw[show (if ((l1.length:Nat):Int)<((l1.length:Nat):Int)then((l1.length:Nat):Int)else((l1.length:Nat):Int))=((l1.length:Nat):Int)from if_neg (by omega)];refine ab 1 rfl (ae [0,1,4,5,6,14] ?_)
 refine aD rfl (fun hb=> ?_) (fun hb=> ?_)
 ·
  have aU:i<l1.length:=by simpa using hb
  obtain⟨q,jU⟩:∃q,l1[i]? = some q:=⟨_,List.getElem?_eq_getElem aU⟩;obtain⟨q2,aaX⟩:∃q,l2[i]? = some q:=⟨_,List.getElem?_eq_getElem (by omega)⟩;obtain⟨g5,B1,k1,e1,B2,k2,e2,aj0,aaY,Ct⟩:=aR.pI iI jU;obtain⟨g6,D1,n1,d1,D2,n2,d2,Jz,pN,JA⟩:=aR.pI ajZ aaX;have jg:=mb jU;have j0:=mb aaX;have pb:=DW i hi;have oZ:=szc (s:=N+2) hn (Nat.le_refl _) hN hi;have so:=vp q q2;have Tp:=aaY.size;have vD:=pN.size;refine aA (aj [0,1,4,5,6] rfl ?_);refine aq (aG (ep .bJ [0,1,2,3,4,5,6,7,8,9,10,11] follows (by kernel_rfl) ?_));refine ab 3 rfl (ck (vs:=[.bool g5,.slice B1 k1 e1,.slice B2 k2 e2]) ah rfl rfl rfl rfl (hr.le dC) rfl (by decide) Ct (by omega) (by omega) fun _=>(ab 2 rfl (ck (vs:=[.bool g6,.slice D1 n1 d1,.slice D2 n2 d2]) ah rfl rfl rfl rfl (dU.le dC) rfl (by decide) JA (by omega) (by omega) fun _=>(a8 rfl rfl ((L1 (aaY.le dC) (pN.le dC) (by omega)).rc) (fun _ _ h=>by first | exact h.le | exact h.1) ?_))));rintro _ H3 ⟨gN,t3,rfl,iN⟩;refine a8 rfl rfl ((X4 (N:=900000000000) (((bK.raw bO).mono (by unfold bN;omega)).le gN) ((bK.raw iN).mono (by omega)) (by decide)).rc) (fun _ _ h=>by first | exact h.le | exact h.1) ?_;rintro _ H4 ⟨dV,t4,rfl,cI⟩;rw[←jg,←j0,show bN i (fn l1) (fn l2)+fn l1 i*fn l2 i=bN (i+1) (fn l1) (fn l2)from rfl]at cI
  obtain⟨ti,ak,al⟩:=a6;refine aI (.inl ⟨rfl,rfl⟩) rfl rfl rfl ak al rfl rfl rfl (az (aj [0,1,4,5,6] rfl ?_));refine aC rfl (ab 1 rfl (aH rfl rfl ⟨by omega,by omega⟩ (ab 1 rfl (az ?_))));exact⟨i+1,t4,by omega,au,dC.trans (gN.trans dV),cI,by omega⟩
 ·
  have hb:l1.length≤i:=by simpa using hb
  obtain rfl:i=l1.length:=by omega
  refine aW (aj [4,5] rfl ?_);refine ag (vr 1 ?_);obtain⟨ti,ak,al⟩:=a6;refine aI (.inl ⟨rfl,rfl⟩) rfl rfl rfl ak al rfl rfl rfl (ae [4] ?_);obtain⟨bQ,aN,aO⟩:=a6;refine aE ⟨.inr rfl,_,.agg rfl Tryz.underlying31 aN aO (.nil),?_⟩;exact⟨dC,t,rfl,bO⟩
end Go.aw
namespace Go.aw
open Go.Proofs Num Lp
end Go.aw
namespace Go.aw
open Go.Proofs Num Lp
end Go.aw
namespace Go.aw
open Go.Proofs Num Lp
def fE(r:List Rat×Int×Rat):List Rat×Int×Rat:=if kO r.2.2 r.2.1=1 then r else(r.1.map (fun q=> -q),kF r.2.1 (-1),-r.2.2)
def aj1(N:Nat)(r:List Rat×Int×Rat)(H:Heap)(v:Value)(H':Heap):Prop:=Heap.le H H'∧∃A0 c0 f A1 m1 c1 A2 m2 c2,v = .agg #[.slice A0 r.1.length c0,.int .i64 (fE r).2.1,.bool f,.slice A1 m1 c1,.slice A2 m2 c2]∧fA (N+2) H' [.slice A0 r.1.length c0,.int .i64 (fE r).2.1,.bool f,.slice A1 m1 c1,.slice A2 m2 c2] (fE r)
theorem fA.mono{N M:Nat}{H:Heap}{vs:List Value}{r:List Rat×Int×Rat}(h:fA N H vs r)(hl:N≤M):fA M H vs r:=by
 obtain⟨c,f,u,w,h1,h2,h3⟩:=h
 exact⟨c,f,u,w,h1,h2.mono fun vs q a=>bR.mono a hl,h3.mono hl⟩
theorem Nu{r:List Rat×Int×Rat}(h:0<r.2.2∨(r.2.2=0∧r.2.1≠3)):fE r=r:=by
 have h1:¬(r.2.2<0∨(r.2.2=0∧r.2.1=3)):=by grind
 unfold fE kO;rw[if_neg h1,if_pos rfl]
theorem aaZ{r:List Rat×Int×Rat}(h:¬(0<r.2.2∨(r.2.2=0∧r.2.1≠3))):fE r=(r.1.map (fun q=> -q),kF r.2.1 (-1),-r.2.2):=by
 have h1:r.2.2<0∨(r.2.2=0∧r.2.1=3):=by grind
 unfold fE kO;rw[if_pos h1,if_neg (by decide)]
theorem aj2{l:List Rat}{f:Rat→Rat}{j:Nat}{q:Rat}(h:l[j]? = some q):(l.take (j+1)).map f=(l.take j).map f ++ [f q]:=by
 rw[List.take_add_one,h,List.map_append];rfl
theorem aj3{H:Heap}{r:List Rat×Int×Rat}{N:Nat}{A0:Option Addr}{c0:Nat}{f:Bool}{A1:Option Addr}{m1 c1:Nat}{A2:Option Addr}{m2 c2:Nat}(hr:fA N H [.slice A0 r.1.length c0,.int .i64 r.2.1,.bool f,.slice A1 m1 c1,.slice A2 m2 c2] r)(hN:N≤400000000)(zi:r.1.length≤1000)(lO:r.2.1=1∨r.2.1=2∨r.2.1=3):
 Fn Tryz.prog 134 #[.agg #[.slice A0 r.1.length c0,.int .i64 r.2.1,.bool f,.slice A1 m1 c1,.slice A2 m2 c2]] H (aj1 N r H):=by
 have qb:ct H (.agg #[.bool f,.slice A1 m1 c1,.slice A2 m2 c2]) r.2.2 N:=fA.bound hr
 have lk:aR (bR N) 3 H (.slice A0 r.1.length c0) r.1:=fA.ZV hr
 obtain⟨A0',c0',x0,e0,mO,tg,Dt⟩:=id lk
 cases e0
 have hbz:=qb.size
 have LM:=lk.I1;refine aZ (args:=[_]) Tryz.func134 rfl rfl Tryz.ntmps134 rfl rfl fun w0=> ?_;refine aj [0] rfl ?_;refine ag (bW rfl rfl (bn gL rfl (ae [1,2] ?_)));refine ag (ab 2 rfl (aF rfl rfl (xE qb (by omega)) ?_));rintro _ H1 ⟨cH,rfl⟩;refine ab 1 rfl (ae [1,2,3] ?_);refine kI (fun(b:Bool)=>put (put (emp) 1 (.box [.slice A0 r.1.length c0,.int .i64 r.2.1,.bool f,.slice A1 m1 c1,.slice A2 m2 c2])) 2 (.box [.slice none 0 0,.int .i64 0,.bool false,.slice none 0 0,.slice none 0 0])) (fun(b:Bool) H'=>H'=H1∧fE r=(r.1.map (fun q=> -q),kF r.2.1 (-1),-r.2.2)) ?_ ?_
 ·
  by_cases g1:0<r.2.2
  ·
   skip
   refine ag (ab 1 rfl (aJ true rfl rfl (mI (Ea.2 g1)) (ab 9 rfl (ae [1,2,19] ?_))));refine dJ rfl (ag (vr 1 ?_));obtain⟨ti,ak,al⟩:=nY;refine aI (.inl ⟨rfl,rfl⟩) rfl rfl rfl ak al rfl rfl rfl (ae [2] ?_);obtain⟨bQ,aN,aO⟩:=nY;refine aE ⟨.inr rfl,_,.agg rfl Tryz.underlying78 aN aO (.nil),?_⟩;exact⟨cH,A0,c0,f,A1,m1,c1,A2,m2,c2,by rw[Nu (by grind)];rfl,by rw[Nu (by grind)];exact fJ _ _ _ _ _ cH (hr.mono (by omega))⟩
  ·
   skip
   by_cases g2:r.2.2=0
   ·
    skip
    by_cases g3:r.2.1=3
    ·
     skip
     refine ag (ab 1 rfl (aJ false rfl rfl (iW (by have:=mt Ea.1 g1;omega)) ?_));refine ab 2 rfl (aJ true rfl rfl (jR (zp.2 g2)) (ab 3 rfl (aJ false rfl rfl (wq g3) (ab 2 rfl (ae [1,2,19] ?_)))));refine dR rfl (aA ?_);exact⟨true,au,rfl,aaZ (by grind)⟩
    skip
    refine ag (ab 1 rfl (aJ false rfl rfl (iW (by have:=mt Ea.1 g1;omega)) ?_));refine ab 2 rfl (aJ true rfl rfl (jR (zp.2 g2)) (ab 3 rfl (aJ true rfl rfl (u0 g3) (ab 2 rfl (ae [1,2,19] ?_)))));refine dJ rfl (ag (vr 1 ?_));obtain⟨ti,ak,al⟩:=nY;refine aI (.inl ⟨rfl,rfl⟩) rfl rfl rfl ak al rfl rfl rfl (ae [2] ?_);obtain⟨bQ,aN,aO⟩:=nY;refine aE ⟨.inr rfl,_,.agg rfl Tryz.underlying78 aN aO (.nil),?_⟩;exact⟨cH,A0,c0,f,A1,m1,c1,A2,m2,c2,by rw[Nu (by grind)];rfl,by rw[Nu (by grind)];exact fJ _ _ _ _ _ cH (hr.mono (by omega))⟩
   skip
   refine ag (ab 1 rfl (aJ false rfl rfl (iW (by have:=mt Ea.1 g1;omega)) ?_));refine ab 2 rfl (aJ false rfl rfl (lD (fun h=>g2 (zp.1 h))) (ab 6 rfl (ae [1,2,19] ?_)));refine dR rfl (aA ?_);exact⟨true,au,rfl,aaZ (by grind)⟩
 ·
  rintro b H3 ⟨e3,hp⟩;rw[e3];clear e3 H3;refine bP .bJ [0,1,2,3,4,5,6,7] follows (by kernel_rfl) ?_;refine ab 4 rfl (a8 rfl rfl ((Es (qb.le cH) (by omega)).rc) (fun _ _ h=>by first | exact h.le | exact h.1) ?_);rintro _ H2 ⟨dC,t4,rfl,cI⟩;have nI:=cH.trans dC;refine de ah rfl gL rfl rfl (bn gL rfl ?_);obtain⟨ti,ak,al⟩:=nY;refine aI (.inl ⟨rfl,rfl⟩) rfl rfl rfl ak al rfl rfl rfl (ae [1,2,4] ?_);refine kI (fun(rl:Int)=>put (put (put (emp) 1 (.box [.slice A0 r.1.length c0,.int .i64 r.2.1,.bool f,.slice A1 m1 c1,.slice A2 m2 c2])) 2 (.box [.slice none 0 0,.int .i64 0,.bool false,.slice none 0 0,.slice none 0 0])) 4 (.box [.slice none 0 0,.int .i64 rl,.bool t4.f,.slice t4.A1 t4.m1 t4.c1,.slice t4.A2 t4.m2 t4.c2])) (fun(rl:Int) H'=>H'=H2∧rl=kF r.2.1 (-1)) ?_ ?_
  ·
   refine ag (ab 3 rfl (ae [1,2,4,29] ?_));refine aD rfl (fun hb=> ?_) (fun hb=> ?_)
   ·
    have bU:¬r.2.1=2:=by simpa using hb
    refine aC rfl (ab 2 rfl (cY rfl rfl ⟨by omega,by omega⟩ (vr 1 ?_)));obtain⟨ti,ak,al⟩:=p3;refine aI (.inr rfl) rfl rfl rfl ak al rfl rfl rfl (az ?_);exact⟨_,au,rfl,by unfold kF;rw[if_neg (by decide),if_neg bU]⟩
   have bU:r.2.1=2:=by simpa using hb
   refine aA ?_;exact⟨_,au,rfl,by unfold kF;rw[if_neg (by decide),if_pos bU];exact bU⟩
  rintro rl H3 ⟨e3,nF⟩;rw[e3];clear e3 H3;refine aq (ag (ab 4 rfl (ae [1,2,4,36,37] ?_)));refine aG (fG (fun(j:Nat)(w:Value)(Nv:List Value)=>r.1.length-j) (fun(j:Nat)(w:Value)(Nv:List Value)=>put (put (put (put (put (emp) 1 (.box [.slice A0 r.1.length c0,.int .i64 r.2.1,.bool f,.slice A1 m1 c1,.slice A2 m2 c2])) 2 (.box [.slice none 0 0,.int .i64 0,.bool false,.slice none 0 0,.slice none 0 0])) 4 (.box [w,.int .i64 rl,.bool t4.f,.slice t4.A1 t4.m1 t4.c1,.slice t4.A2 t4.m2 t4.c2])) 36 (.val (.int .i64 (r.1.length:Int)))) 37 (.val (.int .i64 (j:Int)))) (fun(j:Nat)(w:Value)(Nv:List Value) H'=>ed bX 31 3 H2 H' w ((r.1.take j).map (fun q=> -q)) Nv∧j≤r.1.length) 0 (.slice none 0 0) [] (⟨EX H2,Nat.zero_le _⟩) au ?_);rintro j w Nv H4 ⟨hG,hj⟩;obtain⟨F1,f1,rfl⟩:=hG.form
  have gm:((r.1.take j).map (fun q=> -q)).length=j:=by simp;omega
  refine ag (ab 1 rfl (ae [1,2,4,36,37,38] ?_));refine aq (aD rfl (fun hb=> ?_) (fun hb=> ?_))
  ·
   have gU:j<r.1.length:=by simpa using hb
   obtain⟨q,jU⟩:∃q,r.1[j]? = some q:=⟨_,List.getElem?_eq_getElem gU⟩;obtain⟨g6,G1,n1,o1,G2,n2,o2,Jz,pN,JA⟩:=aR.pI Dt jU;refine aA (aj [1,2,4,36,37] rfl ?_);refine aq (aG (ag (ab 2 rfl (ae [1,2,4,5,36,37] ?_))));refine ep .bJ [0,1,2,3,4,5,6,7,8,9,10,11] follows (by kernel_rfl) ?_;refine ab 5 rfl (ck (vs:=[.bool g6,.slice G1 n1 o1,.slice G2 n2 o2]) ah rfl rfl rfl rfl (tg.le (nI.trans hG.le)) rfl (by decide) JA (by omega) (by omega) fun _=>(a8 rfl rfl (hG.call (Es (pN.le (nI.trans hG.base)) (by omega))) (fun _ _ h=>h.le fun _ _ h=>h.1) ?_));rintro _ H6 gw;have fC:=hG.jK dL gw fun _ _ h=>h.1;obtain⟨⟨_,iu⟩,_⟩:=gw;obtain⟨t6,rfl⟩:=iu.rc;refine cR Tryz.underlying26 bZ rfl rfl rfl rfl rfl rfl rfl ?_;intro gc kg;have ya:=fC.ins dL (whole (cF [t6.v]) 31) kg;refine dK Tryz.underlying26 bZ rfl rfl ya.own (dE _ _ _ _ _ _) rfl (zM _ _ _ _ _ _ _) (by rw[gm];omega) (by rw[gm];omega) ?_;intro v7 H7 qx;have fW:=ya.append dL (k:=[-q]) (by simp) qx (iE (dL _ _ _ _ (og _ (Heap.bC _ kg)) (show bX _ [_,_,_] _ from iu)) rfl);obtain⟨F7,f7,rfl⟩:=fW.form;refine vr 1 ?_;obtain⟨ti,ak,al⟩:=Ge;refine aI (.inr rfl) rfl rfl rfl ak al rfl rfl rfl ?_
   refine az (aj [1,2,4,36,37] rfl ?_);refine aC rfl (aH rfl rfl ⟨by omega,by omega⟩ (ab 1 rfl (az ?_)));exact⟨j+1,_,_,by omega,au,by rw[aj2 jU];exact fW,by omega⟩
  have gU:r.1.length≤j:=by simpa using hb
  obtain rfl:j=r.1.length:=by omega
  rw[List.take_length]at hG gm;have dV:=nI.trans hG.le
  have eT:=(hG.sl dL).xL (N:=N+2) (fun q hq=>by
   obtain⟨q',pY,rfl⟩:=List.mem_map.1 hq
   rw[wQ];exact LM q' pY)
  rw[gm]at eT;refine aW (aj [2,4] rfl ?_);refine ag (vr 1 ?_);obtain⟨ti,ak,al⟩:=nY;refine aI (.inl ⟨rfl,rfl⟩) rfl rfl rfl ak al rfl rfl rfl (ae [2] ?_);obtain⟨bQ,aN,aO⟩:=nY;refine aE ⟨.inr rfl,_,.agg rfl Tryz.underlying78 aN aO (.nil),?_⟩
  skip
  simp only[List.take_length,gm]
  exact⟨dV,F1,f1,t4.f,t4.A1,t4.m1,t4.c1,t4.A2,t4.m2,t4.c2,by rw[hp,nF];rfl,by rw[hp,←nF];exact⟨_,_,_,_,rfl,eT,((bK.raw cI).mono (by rw[wQ];omega)).le hG.le⟩⟩
end Go.aw
namespace Go.aw
open Go.Proofs Num Lp
theorem yb{α:Type}{l:List α}{k n:Nat}{a:α}(h:l[k]? = some a)(hk:k<n):(fill l n)[k]? = some (some a):=by
 unfold fill
 have hl:=(List.getElem?_eq_some_iff.1 h).1
 rw[List.getElem?_append_left (by rw[List.length_map,List.length_take];omega),List.getElem?_map,List.getElem?_take,if_pos hk,h];rfl
theorem aj4{f:Nat→Rat}{W k:Nat}{q:Rat}(hk:k<W):(fill (aL f W) (k+1)).set k (some q)=fill (aL (bY f k q) W) (k+1):=by
 apply List.ext_getElem?
 intro i
 have hl:=nC (l:=aL f W) (k:=k+1) (by rw[bh];omega)
 have kU:=nC (l:=aL (bY f k q) W) (k:=k+1) (by rw[bh];omega)
 rw[bh]at hl kU
 by_cases hi:i<W
 ·by_cases e:i=k
  ·subst e
   rw[List.getElem?_set_self (by omega),yb (dM hi) (Nat.lt_succ_self _),rp]
  ·rw[List.getElem?_set_ne (fun e'=>e e'.symm)]
   by_cases h2:i<k+1
   ·rw[yb (dM hi) h2,yb (dM hi) h2,pL e]
   ·unfold fill
    rw[List.getElem?_append_right (by simp;omega),List.getElem?_append_right (by simp;omega)]
    simp[bh]
 ·rw[List.getElem?_eq_none (by rw[List.length_set];omega),List.getElem?_eq_none (by omega)]
theorem aj5{W k n:Nat}{xs:List Value}{f:Nat→Rat}(h:qv W xs f n)(hk:k<n)(hn:n≤W):∃a d:Int,fD [.int .i64 a,.int .i64 d] (f k)∧∀(j:Nat)(v:Value),[.int .i64 a,.int .i64 d][j]? = some v→xs[k*2+j]? = some v:=by
 have h:bE _ _ _ _:=h
 obtain⟨vs,_,h2,h3⟩:=h.get (yb (dM (f:=f) (n:=W) (show k<W by omega)) hk)
 have h2:fD vs (f k):=h2
 obtain⟨a,d,rfl,h4⟩:=id h2
 exact⟨a,d,h2,h3⟩
theorem aj6{W k:Nat}{xs vs:List Value}{f:Nat→Rat}{q:Rat}(h:qv W xs f (k+1))(hk:k<W)(hv:fD vs q):qv W (aM xs (k*2) vs) (bY f k q) (k+1):=by
 show bE _ _ _ _
 rw[←aj4 hk]
 have h:bE _ _ _ _:=h
 exact h.set (by rw[nC (by rw[bh];omega),bh];exact hk) (show iq rz _ vs (some q)from hv) (by obtain⟨a,b,rfl,_⟩:=hv;rfl)
theorem aj7{W k:Nat}{xs:List Value}{f f':Nat→Rat}(h:qv W xs f k)(he:∀j,j<k→f' j=f j):qv W xs f' k:=by
 have h:bE _ _ _ _:=h
 refine⟨by rw[h.len];simp[fill,bh],fun i a ha=> ?_⟩
 unfold fill at ha
 by_cases hi:i<((aL f' W).take k).length
 ·rw[List.getElem?_append_left (by rw[List.length_map];exact hi),List.getElem?_map,List.getElem?_take]at ha
  rw[List.length_take,bh]at hi
  rw[if_pos (by omega),dM (by omega)]at ha
  cases ha
  have h2:=h.at_ i _ (yb (dM (f:=f) (n:=W) (show i<W by omega)) (show i<k by omega))
  rw[he i (by omega)];exact h2
 ·rw[List.getElem?_append_right (by rw[List.length_map];omega)]at ha
  have:=(List.getElem?_eq_some_iff.1 ha).2
  rw[List.getElem_replicate]at this
  subst this;trivial
structure QY(o:Bool)(K H:Heap)(g:Nat)(G:GG)(R W m:Nat)(M:Nat→Nat→Rat)(B:Nat→Nat)(z:Nat)(f:Nat→Rat)(k:Nat):Prop where
 q:QV o H g (G.on (z::G.top)) R W m M B
 row:∃xs,H z=some ⟨xs,W*2,163,true⟩∧qv W xs f k
 ne:z≠g
 le:Heap.le K (rem H (G.on (z::G.top)).gs)
section
variable {o o':Bool} {K H H':Heap} {g:Nat} {G:GG} {R W m z k:Nat} {M:Nat→Nat→Rat} {B:Nat→Nat} {f:Nat→Rat}
theorem QY.put(h:QY o K H g G R W m M B z f k)(ht:fT (G.on (z::G.top)).gs g H H')(iL:H' g=some ⟨[.slice G.Ar R G.cr,G.bv,.bool o'],3,160,true⟩){xs:List Value}{f':Nat→Rat}{k':Nat}(iI:qv W xs f' k'):QY o' K (ins H' z ⟨xs,W*2,163,true⟩) g G R W m M B z f' k':=by
 have h1:=h.q.uK ht iL
 have hm:z∈(G.on (z::G.top)).gs:=QZ.m7
 have hT:fT (G.on (z::G.top)).gs z H' (ins H' z ⟨xs,W*2,163,true⟩):=((Kept.refl _ _).iO z).ins hm _
 exact⟨⟨h1.cZ.Cx (List.mem_cons_self ..) hT (by rw[bF];simp),h1.gt,by rw[bg _ _ (Ne.symm h.ne)];exact h1.st⟩,⟨_,bF _ _ _,iI⟩,h.ne,h.le.trans (ht.le.trans hT.le)⟩
end
def rC(p:Prg)(M:Nat→Nat→Rat)(k i:Nat):Rat:=if k<p.u∨k=p.w then-bB i (fun q=>if p.u≤p.unit q then M q k else 0)else 0
theorem aa0{p:Prg}{M:Nat→Nat→Rat}{k:Nat}:rC p M k 0=0:=by
 unfold rC;split
 ·show -0=(0:Rat);grind
 ·rfl
theorem aa1{p:Prg}{M:Nat→Nat→Rat}{k i:Nat}(h:p.u≤p.unit i∧(k<p.u∨k=p.w)):rC p M k (i+1)=rC p M k i-M i k:=by
 unfold rC;rw[if_pos h.2,if_pos h.2,fZ,if_pos h.1];grind
theorem aa2{p:Prg}{M:Nat→Nat→Rat}{k i:Nat}(h:¬(p.u≤p.unit i∧(k<p.u∨k=p.w))):rC p M k (i+1)=rC p M k i:=by
 unfold rC
 by_cases h2:k<p.u∨k=p.w
 ·rw[if_pos h2,if_pos h2,fZ,if_neg (fun h1=>h ⟨h1,h2⟩)];grind
 ·rw[if_neg h2,if_neg h2]
theorem aa3{p:Prg}{M:Nat→Nat→Rat}{k:Nat}:rC p M k p.lp.m=rA p M k:=rfl
def wid(p:Prg)(i:Nat):Nat:=if i=0 then p.u+1 else p.w+1
theorem aj8{p:Prg}:wid p p.lp.m=p.w+1:=by
 unfold wid
 split
 ·rename_i h
  have e:p.w=p.u:=by show aY _ _ _ p.lp.m=_;rw[h];rfl
  omega
 ·rfl
theorem aj9(l:List Rat):aL (fn l) l.length=l:=by
 apply List.ext_getElem?
 intro j
 by_cases hj:j<l.length
 ·rw[dM hj,List.getElem?_eq_getElem hj,mb (List.getElem?_eq_getElem hj)]
 ·rw[List.getElem?_eq_none (by rw[bh];omega),List.getElem?_eq_none (by omega)]
theorem bX.rc{H:Heap}{vs:List Value}{q:Rat}(h:bX H vs q):∃t:RC,vs = [.bool t.f,.slice t.A1 t.m1 t.c1,.slice t.A2 t.m2 t.c2]∧bK H t.v q:=by
 obtain⟨t,e⟩:=bK.rc (show bK H (.agg vs.toArray) q from h)
 have h2:=zf e
 refine⟨t,h2,?_⟩
 rw[←e];exact h
theorem bR.rc{H:Heap}{vs:List Value}{q:Rat}{N:Nat}(h:bR N H vs q):∃t:RC,vs = [.bool t.f,.slice t.A1 t.m1 t.c1,.slice t.A2 t.m2 t.c2]∧ct H t.v q N:=by
 obtain⟨f,A,m,c,A',m',c',rfl⟩:=bR.cells h
 exact⟨⟨f,A,m,c,A',m',c'⟩,rfl,h⟩
theorem QV.sZ{o:Bool}{H:Heap}{g:Nat}{G:GG}{R W m:Nat}{M:Nat→Nat→Rat}{B:Nat→Nat}(h:QV o H g G R W m M B):∃Ab cb,G.bv = .slice Ab m cb∧∀{o' H' R' M' B'},QV o' H' g G R' W m M' B'→∀i,i<m→Rd H' Ab (eL B' m):=by
 rcases h.cZ.basis with ⟨h1,h2,h3⟩ | ⟨gb,cb,sz,h1,h2,h3⟩
 ·exact⟨none,0,by rw[h3,h1],fun _ i hi=>by omega⟩
 ·refine⟨_,cb,h2,fun h' i hi=> ?_⟩
  rcases h'.cZ.basis with ⟨k1,k2,k3⟩ | ⟨CE,M6,eV,k1,k2,k3⟩
  ·omega
  ·rw[h1]at k1;cases k1;exact dW k3
theorem Rd.at{H:Heap}{ad:Addr}{xs:List Value}(h:Rd H (some ad) xs):∀(i:Nat)(v:Value),xs[i]? = some v→cell H (ad.add i)=some v:=fun i v hv=>by
 obtain⟨FT,h1,h2⟩:=h i v hv
 cases h1;exact h2
theorem QZ.iO{o:Bool}{S H:Heap}{g:Nat}{G:GG}{R W m z:Nat}{M:Nat→Nat→Rat}{B:Nat→Nat}{f:Nat→Rat}(h:QZ o (rem S G.gs) S H g G R W m M B z f):fT G.gs g S H:=⟨h.le.trans (GB H z G.gs),h.same⟩
theorem Nw{H H':Heap}{v v':Value}{e n:Nat}{rg:List (Nat×Nat)}{W z c:Nat}(h:App H v e 1 n (jc rg W ++ [Value.slice (some ⟨z,0,none⟩) W c]) v' H'):App H v e 1 n (jc (rg ++ [(z,c)]) W) v' H':=by
 unfold jc at h⊢;rw[List.map_append];exact h
theorem aa4{rg:List (Nat×Nat)}{W z c:Nat}:jc rg W++cF [Value.slice (some ⟨z,0,none⟩) W c]=jc (rg ++ [(z,c)]) W:=by
 unfold jc;rw[List.map_append];rfl
theorem aka{B:Nat→Nat}{m:Nat}:∀u,u∈eL B m→u.oneCell'=true:=fun u hu=>by
 obtain⟨i,_,rfl⟩:=List.mem_map.1 hu
 rfl
theorem aa5{n d:Int}:∀u,u∈cF [Value.agg #[.int .i64 n,.int .i64 d]]→u.oneCell'=true:=fun u hu=>by
 have hu:u∈[Value.int .i64 n,.int .i64 d]:=hu
 simp only[List.mem_cons,List.not_mem_nil,or_false]at hu
 rcases hu with rfl | rfl <;> rfl
theorem QV.CP{o:Bool}{H:Heap}{g:Nat}{G:GG}{R W m:Nat}{M M':Nat→Nat→Rat}{B:Nat→Nat}(h:QV o H g G R W m M B)(hM:∀i,i<R→∀j,j<W→M' i j=M i j):QV o H g G R W m M' B:=⟨h.cZ.congr hM fun _ _=>rfl,h.gt,h.st⟩
theorem akb{H:Heap}{bv:Value}{B:Nat→Nat}{M:Nat→Nat→Rat}{m W g:Nat}(ho:cg H bv 3 1 m (eL B m))(hg:H g=none):∃G:GG,(G.top = [g]∧G.gs=g::aB bv)∧QV false (ins H g ⟨[.slice none 0 0,bv,.bool false],3,160,true⟩) g G 0 W m M B:=by
 have hn:∀q,q∈aB bv→q≠g:=fun q hq e=>by
  obtain⟨en,he⟩:=ho.block (cM.1 hq)
  rw[e,hg]at he;cases he
 refine⟨⟨[g],[],aB bv,bv,[],none,0⟩,⟨rfl,?_⟩,⟨⟨?_,fun q hq=> ?_,rfl,rfl,lB _ _ _,fun i p hp=> ?_,?_⟩,List.mem_singleton.2 rfl,bF _ _ _⟩⟩
 ·show [g]++([]++(aB bv ++ []))=_
  simp
 ·show ([g]++([]++(aB bv ++ []))).Nodup
  simp only[List.nil_append,List.append_nil,List.singleton_append]
  exact List.nodup_cons.2 ⟨fun hm=>hn g hm rfl,SD _⟩
 ·rw[List.mem_singleton.1 hq,bF];simp
 ·have hp:([]:List (Nat×Nat))[i]? = some p:=hp
  simp at hp
 ·rcases ho.2 with ⟨h1,h2⟩ | ⟨gb,cap,h1,h2,_⟩
  ·exact .inl ⟨h2,by show aB bv = [];rw[h1];rfl,h1⟩
  ·refine .inr ⟨gb,cap,cap*1,by show aB bv = [gb];rw[h1];rfl,h1,?_⟩
   rw[bg _ _ (hn gb (by rw[h1];exact List.mem_singleton.2 rfl))];exact h2
theorem akc{H1 H2:Heap}{bv:Value}{B:Nat→Nat}{M:Nat→Nat→Rat}{m W g:Nat}{G:GG}{xs:List Value}(h:QV false (ins H2 g ⟨[.slice none 0 0,bv,.bool false],3,160,true⟩) g G 0 W m M B)(ha:App H1 (.slice none 0 0) 3 1 m xs bv H2)(hg:H2 g=none)(hG:G.top = [g]∧G.gs=g::aB bv):Heap.le H1 (rem (ins H2 g ⟨[.slice none 0 0,bv,.bool false],3,160,true⟩) G.gs):=fun q en hq=>by
 have h1:=ha.same q en hq fun e=>by cases e
 have h2:q≠g:=fun e=>by rw[e,hg]at h1;cases h1
 refine⟨en,?_,.refl _⟩
 rw[bM,bg _ _ h2]
 ·exact h1
 ·rw[hG.2]
  intro hm
  rcases List.mem_cons.1 hm with hm | hm
  ·exact h2 hm
  ·rcases ha.new q hm with h3 | h3
   ·cases h3
   ·rw[h3]at hq;cases hq
def QkP(p:Prg)(c:List Rat)(st:Int)(xv:Value)(H:Heap):Prop:=(st=1∧∃x,aR bX 3 H xv x∧x.length=p.free.length∧vV p c 1 (bN p.free.length (fn c) (fn x))∧∀q,q∈x→aP q≤17)∨(st≠1∧vV p c st 0)
theorem akd{H:Heap}{p:Prg}{c:List Rat}{pv cv:Value}{Ar Ab:Option Addr}{cr cb N N0:Nat}{rg:List (Nat×Nat)}(bx:p.Ok)(fo:c.length=p.free.length)(hp:ea N H pv p)(hc:aR (bR N) 3 H cv c)(hN:(N:Int)≤4398046511000)(ht:Jr H Ar Ab rg p.lp.m (p.w+1) (dP p) p.unit)(hz:∀i,i<p.lp.m→∀j,j≤p.w→aP (dP p i j)≤N0)(D4:(N0:Int)≤4398046511000):
 Fn Tryz.prog 63 #[pv,cv,.agg #[.slice Ar p.lp.m cr,.slice Ab p.lp.m cb],.int .i64 (p.u:Int)] H (fun v H'=>∃st xv b,v = .tuple #[.int .i64 st,xv,.bool b]∧Heap.le H H'∧(b=true→QkP p c st xv H')):=by
 obtain⟨fv,fL,rfl,dO,eo⟩:=id hp
 obtain⟨Ac,cc,xc,rfl,Mu,om,tP⟩:=id hc
 have p9:=Ih p
 have Tq:=bx.iG
 have Tr:=bx.rows
 have ake:p.lp.m≤800:=Tr
 have aa6:p.lp.n≤400:=Tq
 have mU:=fp p
 have akf:=mr p;refine aZ (args:=[_,_,_,_]) Tryz.func63 rfl rfl Tryz.ntmps63 rfl rfl fun w0=> ?_;refine aj [0,1,2,3] rfl ?_;refine ag (bW rfl rfl (bW rfl rfl (ab 3 rfl (ae [1,3,4,6] ?_))));refine MQ 4 rfl fun g4 e4 BU=> ?_;have BM:Rd (ins H g4 ⟨[fv,fL],2,e4,true⟩) (some ⟨g4,0,none⟩) [fv,fL]:=dE _ _ _ _ _ _;have dV:Heap.le H (ins H g4 ⟨[fv,fL],2,e4,true⟩):=Heap.bC _ BU
 show VC _ _ _ _ _ _ _ (ins H g4 ⟨[fv,fL],2,e4,true⟩)
 generalize ins H g4 ⟨[fv,fL],2,e4,true⟩=H1 at *
 have zZ:=ht.le dV;refine ag (ab 2 rfl (dK Tryz.underlying94 jl rfl rfl (lB H1 3 1) (zZ.sZ) (by rw[BI,Nat.mul_one]) (aka) (by omega) (by omega) ?_));intro bv H2 lY;rw[List.nil_append,Nat.zero_add]at lY;obtain⟨A2,c2,rfl⟩:=lY.own.form;refine de ah rfl aeh rfl rfl (OE rfl rfl ?_);intro g hg;obtain⟨G0,akg,jD⟩:=akb (M:=dP p) (W:=p.w+1) lY.own hg;have BZ:Heap.le H1 (rem (ins H2 g ⟨[.slice none 0 0,.slice A2 p.lp.m c2,.bool false],3,160,true⟩) G0.gs):=akc jD lY hg akg;refine ab 1 rfl (ae [1,3,4,6,11] ?_);refine ag (ab 1 rfl (aH rfl rfl ⟨by omega,by omega⟩ (ab 1 rfl (ae [1,3,4,6,11,12] ?_))));refine aq (ag (ab 4 rfl (ae [1,3,4,11,12,39,40,41] ?_)));refine aG (ij (fun(i:Nat)(G:GG)=>p.lp.m-i) (fun(i:Nat)(G:GG)=>put (put (put (put (put (put (put (put (emp) 1 (.val (.slice Ac c.length cc))) 3 (.val (.int .i64 (p.u:Int)))) 4 (.val (.pointer (some ⟨g4,0,none⟩)))) 11 (.val (.pointer (some ⟨g,0,none⟩)))) 12 (.val (.int .i64 (wid p i:Int)))) 39 (.val (.slice Ar p.lp.m cr))) 40 (.val (.int .i64 (p.lp.m:Int)))) 41 (.val (.int .i64 (i:Int)))) (fun(i:Nat)(G:GG) H'=>QV false H' g G i (p.w+1) p.lp.m (dP p) p.unit∧Heap.le H1 (rem H' G.gs)∧i≤p.lp.m) 0 G0 (⟨jD,BZ,Nat.zero_le _⟩) (by repeat (first | exact iV _ | refine dB rfl ?_ | refine dB (jk (by first | omega | (simp;done) | (simp[wid];done))) ?_)) ?_)
 rintro i G H3 ⟨hq,hl,hi⟩;have hlH:=dV.trans (hl.trans (bt _ _));refine ag (ab 1 rfl (ae [1,3,4,11,12,39,40,41,42] ?_));refine aq (aD rfl (fun hb=> ?_) (fun hb=> ?_))
 ·
  have aU:i<p.lp.m:=by simpa using hb
  obtain⟨pi,cU⟩:∃pi,rg[i]? = some pi:=⟨_,List.getElem?_eq_getElem (by rw[ht.len];exact aU)⟩;obtain⟨xp,mh,hep⟩:=zZ.row i pi cU;refine aA (aj [1,3,4,11,39,40,41] rfl ?_);refine aq (aG (ag (aS ah rfl rfl rfl rfl rfl (zZ.lj.le (hl.trans (bt _ _))) (by rw[Int.toNat_natCast];exact kE cU) (by omega) (by omega) fun _=> ?_)));refine ab 1 rfl (ae [1,3,4,11,14,39,40,41] ?_);refine ag (ab 2 rfl (gJ Tryz.underlying161 fP rfl rfl rfl (by omega) (by omega) (by omega) (by omega) ?_));intro z JB;have xI:=ajM (P:=rz) (e:=163) (sz:=2) (zs:=[.int .i64 0,.int .i64 0]) (z:=0) (k:=((p.w+1:Nat):Int)) (c:=p.w+1) JB rfl (Int.toNat_natCast _) (by unfold maxLen;omega) hq.cZ.ne;rw[Int.toNat_natCast]at xI⊢;refine ab 1 rfl (ae [1,3,4,11,14,15,39,40,41] ?_);refine aq (ag (ab 3 rfl (ae [1,3,4,11,15,39,40,41,48,49,50] ?_)));refine aG (fG (fun(j:Nat)(w:Value)(xs:List Value)=>p.w+1-j) (fun(j:Nat)(w:Value)(xs:List Value)=>put (put (put (put (put (put (put (put (put (put (put (emp) 1 (.val (.slice Ac c.length cc))) 3 (.val (.int .i64 (p.u:Int)))) 4 (.val (.pointer (some ⟨g4,0,none⟩)))) 11 (.val (.pointer (some ⟨g,0,none⟩)))) 15 (.val (w))) 39 (.val (.slice Ar p.lp.m cr))) 40 (.val (.int .i64 (p.lp.m:Int)))) 41 (.val (.int .i64 (i:Int)))) 48 (.val (.slice (some ⟨pi.1,0,none⟩) (p.w+1) pi.2))) 49 (.val (.int .i64 ((p.w+1:Nat):Int)))) 50 (.val (.int .i64 (j:Int)))) (fun(j:Nat)(w:Value)(xs:List Value) H'=>gF G.gs H3 rz 163 2 H' w (aL (dP p i) j) xs∧j≤p.w+1) 0 _ _ (⟨xI,Nat.zero_le _⟩) au ?_)
  rintro j w xs H5 ⟨hX,hj⟩;obtain⟨A5,c5,e5⟩:=hX.form;rw[bh]at e5;subst e5;have JC:=hl.trans hX.base;refine ag (ab 1 rfl (ae [1,3,4,11,15,39,40,41,48,49,50,51] ?_));refine aq (aD rfl (fun hb=> ?_) (fun hb=> ?_))
  ·
   have hjW:j<p.w+1:=by simp at hb;omega
   obtain⟨vs,_,Ts,CN⟩:=hep.get (dM hjW);obtain⟨t,rfl,Tt⟩:=bX.rc Ts;have hzj:=hz i aU j (by omega);refine aA (aj [1,3,4,11,15,39,40,41,48,49,50] rfl ?_);refine aq (aG (ag (ck (vs:=[.bool t.f,.slice t.A1 t.m1 t.c1,.slice t.A2 t.m2 t.c2]) ah rfl rfl rfl rfl (mh.le (JC.trans (bt _ _))) rfl (by decide) (by rw[Int.toNat_natCast];exact CN) (by omega) (by omega) fun _=> ?_)));refine bn bZ rfl ?_;obtain⟨ti,ak,al⟩:=a6;refine aI (.inl ⟨rfl,rfl⟩) rfl rfl rfl ak al rfl rfl rfl (ae [1,3,4,11,15,17,39,40,41,48,49,50] ?_);refine ag (ab 1 rfl (aF rfl rfl (hX.call (aaa (N:=N0) ((bK.raw (Tt.le JC)).mono hzj) D4)) ?_));rintro _ H6 gw;have JD:=hX.jK zV gw fun _ _ h=>h.1;obtain⟨⟨_,n6,d6,b6,rfl,Er⟩,_⟩:=gw;refine ab 3 rfl (bn fP rfl ?_);obtain⟨ti,ak,al⟩:=eE;refine aI (.inl ⟨rfl,rfl⟩) rfl rfl rfl ak al rfl rfl rfl (ab 1 rfl (ae [1,3,4,11,15,18,19,39,40,41,48,49,50] ?_));refine aq (ag (ab 2 rfl (ae [1,3,4,11,15,18,39,40,41,48,49,50,60] ?_)));refine aD rfl (fun hb=> ?_) (fun hb=> ?_)
   ·
    skip
    refine ag (ab 3 rfl (ae [8,9,10] ?_));refine aE ⟨.inr rfl,_,.tmp rfl (.tmp rfl (.tmp rfl (.nil))),?_⟩;exact⟨0,.slice none 0 0,false,rfl,dV.trans (hl.trans (JD.base.trans (bt _ _))),fun h9=>by cases h9⟩
   have wh:=Er (by simpa using hb);refine aA (aj [1,3,4,11,15,18,39,40,41,48,49,50] rfl ?_);refine aC rfl (ab 2 rfl (cR Tryz.underlying161 fP rfl rfl rfl rfl rfl rfl rfl ?_));intro gb bo;have JE:=JD.ins zV (whole (cF [.agg #[.int .i64 n6,.int .i64 d6]]) 163) bo;refine dK Tryz.underlying161 fP rfl rfl JE.own (dE _ _ _ _ _ _) rfl aa5 (by rw[bh];omega) (by rw[bh];omega) ?_;intro W9 H7 qx;have Tu:=JE.append zV (j:=[dP p i j]) (by simp) qx (iE (show rz _ [_,_] _ from wh) rfl);refine ab 1 rfl (az (aj [1,3,4,11,15,39,40,41,48,49,50] rfl ?_));refine aC rfl (aH rfl rfl ⟨by omega,by omega⟩ (ab 1 rfl (az ?_)));exact⟨j+1,_,_,by omega,au,by rw[xh];exact Tu,by omega⟩
  ·
   have hjW:p.w+1≤j:=by simp at hb;omega
   obtain rfl:j=p.w+1:=by omega
   obtain⟨z,cz,ez,Ff⟩:=Q0 hX.own (by rw[bh];omega);rw[bh]at ez;have e1:=(Value.slice.inj ez).1;have e2:=(Value.slice.inj ez).2.2;subst e1;subst e2;clear ez;obtain⟨hgX,akh,heX⟩:=hX.cZ hq.cZ;have hqX:QV false H5 g (G.on (z::G.top)) i (p.w+1) p.lp.m (dP p) p.unit:=⟨hgX,List.mem_cons_of_mem _ hq.gt,(hX.same g hq.mem).trans hq.st⟩;have ou:z≠g:=fun e9=>hX.apart g hq.mem (by rw[←e9];exact List.mem_singleton.2 rfl);have Tv:pK vQ (rem H5 (G.on (z::G.top)).gs) H5 z (aL (dP p i) (p.w+1)):=⟨_,_,Ff,hX.lT⟩;refine aW (aj [1,3,4,11,15,39,40,41] rfl ?_);refine aC rfl (ab 3 rfl (aV ah rfl rfl rfl (aT ah rfl rfl rfl (hqX.ja) (ab 1 rfl (cR Tryz.underlying158 Dm rfl rfl rfl rfl rfl rfl rfl ?_)))));intro gb bo;obtain⟨vh,s0⟩:=hqX.fresh (e:=whole [.slice (some ⟨z,0,none⟩) (p.w+1) c5] 161) bo;have Tx:pK vQ (rem (ins H5 gb (whole [.slice (some ⟨z,0,none⟩) (p.w+1) c5] 161)) (G.on (z::G.top)).gs) (ins H5 gb (whole [.slice (some ⟨z,0,none⟩) (p.w+1) c5] 161)) z (aL (dP p i) (p.w+1)):=Tv.le s0 (bg _ _ fun(e9:z=gb)=>by rw[←e9,Ff]at bo;cases bo);refine dK Tryz.underlying158 Dm rfl rfl vh.cZ.rows (dE _ _ _ _ _ _) rfl (B9 _ _ _) (by omega) (by omega) ?_;intro v8 H8 jJ;obtain⟨A8,c8,rfl⟩:=jJ.own.form
   rw[show jc (G.on (z::G.top)).rg (p.w+1)++cF [Value.slice (some ⟨z,0,none⟩) (p.w+1) c5]=jc (G.rg ++ [(z,c5)]) (p.w+1)from aa4]at jJ;obtain⟨fK,iJ,Fg⟩:=vh.more (G:=G) hq.gt ou Tx jJ
   have fK:=fK.CP fun i' gi j' hj'=>show dP p i' j'=(if i'=i then dP p i else dP p i') j' by split <;> simp_all
   have iJ:=(hl.trans akh).trans (s0.trans iJ);refine ab 3 rfl (aV ah rfl rfl rfl ?_);obtain⟨ti,ak,al⟩:=Ky;refine ma (g:=g) (o:=0) (.inl rfl) rfl Fg rfl (by show 0+1≤3;omega) ak al rfl rfl rfl rfl ?_;refine ab 1 rfl (az (aj [1,3,4,11,12,39,40,41] rfl ?_));refine aC rfl (aH rfl rfl ⟨by omega,by omega⟩ (ab 1 rfl (az ?_)))
   have e8:wid p (i+1)=p.w+1:=by unfold wid;rw[if_neg (by omega)]
   exact⟨i+1,_,by omega,au,fK,iJ,by omega⟩
 ·
  have aU:p.lp.m≤i:=by simpa using hb
  obtain rfl:i=p.lp.m:=by omega
  rw[aj8];have xI:=I6 (P:=rz) (e:=163) (sz:=2) hq.cZ.ne;refine aW (aj [1,3,4,11,12] rfl ?_);refine ag (ab 1 rfl (ae [1,3,4,11,12,20] ?_));refine aq (ag (ab 3 rfl (ae [3,4,11,12,20,79,80,81] ?_)));refine aG (fG (fun(j:Nat)(w:Value)(xs:List Value)=>c.length-j) (fun(j:Nat)(w:Value)(xs:List Value)=>put (put (put (put (put (put (put (put (emp) 3 (.val (.int .i64 (p.u:Int)))) 4 (.val (.pointer (some ⟨g4,0,none⟩)))) 11 (.val (.pointer (some ⟨g,0,none⟩)))) 12 (.val (.int .i64 ((p.w+1:Nat):Int)))) 20 (.val (w))) 79 (.val (.slice Ac c.length cc))) 80 (.val (.int .i64 (c.length:Int)))) 81 (.val (.int .i64 (j:Int)))) (fun(j:Nat)(w:Value)(xs:List Value) H'=>gF G.gs H3 rz 163 2 H' w (aL (fn c) j) xs∧j≤c.length) 0 _ _ (⟨xI,Nat.zero_le _⟩) au ?_);rintro j w xs H5 ⟨hX,hj⟩;obtain⟨A5,c5,e5⟩:=hX.form;rw[bh]at e5;subst e5;have JC:=hl.trans hX.base;refine ag (ab 1 rfl (ae [3,4,11,12,20,79,80,81,82] ?_));refine aq (aD rfl (fun hb=> ?_) (fun hb=> ?_))
  ·
   have Tz:j<c.length:=by simpa using hb
   obtain⟨vs,_,Ts,CN⟩:=tP.get (show c[j]? = some (fn c j) by rw[List.getElem?_eq_getElem Tz,mb (List.getElem?_eq_getElem Tz)]);obtain⟨t,rfl,Tt⟩:=bR.rc Ts;refine aA (aj [3,4,11,12,20,79,80,81] rfl ?_);refine aq (aG (ag (ck (vs:=[.bool t.f,.slice t.A1 t.m1 t.c1,.slice t.A2 t.m2 t.c2]) ah rfl rfl rfl rfl (om.le (dV.trans (JC.trans (bt _ _)))) rfl (by decide) (by rw[Int.toNat_natCast];exact CN) (by omega) (by omega) fun _=> ?_)));refine bn bZ rfl ?_;obtain⟨ti,ak,al⟩:=a6;refine aI (.inl ⟨rfl,rfl⟩) rfl rfl rfl ak al rfl rfl rfl (ae [3,4,11,12,20,22,79,80,81] ?_);refine ag (ab 1 rfl (aF rfl rfl (hX.call (aaa (N:=N) (Tt.le (dV.trans JC)) hN)) ?_));rintro _ H6 gw;have JD:=hX.jK zV gw fun _ _ h=>h.1;obtain⟨⟨_,n6,d6,b6,rfl,Er⟩,_⟩:=gw;refine ab 3 rfl (bn fP rfl ?_);obtain⟨ti,ak,al⟩:=eE;refine aI (.inl ⟨rfl,rfl⟩) rfl rfl rfl ak al rfl rfl rfl (ab 1 rfl (ae [3,4,11,12,20,23,24,79,80,81] ?_));refine aq (ag (ab 2 rfl (ae [3,4,11,12,20,23,79,80,81,91] ?_)));refine aD rfl (fun hb=> ?_) (fun hb=> ?_)
   ·
    skip
    refine ag (ab 3 rfl (ae [8,9,10] ?_));refine aE ⟨.inr rfl,_,.tmp rfl (.tmp rfl (.tmp rfl (.nil))),?_⟩;exact⟨0,.slice none 0 0,false,rfl,dV.trans (hl.trans (JD.base.trans (bt _ _))),fun h9=>by cases h9⟩
   have wh:=Er (by simpa using hb);refine aA (aj [3,4,11,12,20,23,79,80,81] rfl ?_);refine aC rfl (ab 2 rfl (cR Tryz.underlying161 fP rfl rfl rfl rfl rfl rfl rfl ?_));intro gb bo;have JE:=JD.ins zV (whole (cF [.agg #[.int .i64 n6,.int .i64 d6]]) 163) bo;refine dK Tryz.underlying161 fP rfl rfl JE.own (dE _ _ _ _ _ _) rfl aa5 (by rw[bh];omega) (by rw[bh];omega) ?_;intro W9 H7 qx;have Tu:=JE.append zV (j:=[fn c j]) (by simp) qx (iE (show rz _ [_,_] _ from wh) rfl);refine ab 1 rfl (az (aj [3,4,11,12,20,79,80,81] rfl ?_));refine aC rfl (aH rfl rfl ⟨by omega,by omega⟩ (ab 1 rfl (az ?_)));exact⟨j+1,_,_,by omega,au,by rw[xh];exact Tu,by omega⟩
  have Tz:c.length≤j:=by simpa using hb
  obtain rfl:j=c.length:=by omega
  have CL:=hX.sl zV;rw[aj9]at CL;have eW:QV false H5 g G p.lp.m (p.w+1) p.lp.m (dP p) p.unit:=⟨hq.cZ.kept ⟨hX.out,hX.same⟩,hq.gt,(hX.same g hq.mem).trans hq.st⟩;have gq:=hl.trans hX.out;clear hX;refine aW (aj [3,4,11,12,20] rfl ?_);refine ag (ab 1 rfl (gJ Tryz.underlying161 fP rfl rfl rfl (by omega) (by omega) (by omega) (by omega) ?_));intro z JB;rw[Int.toNat_natCast]
  have ou:z≠g:=fun e9=>by rw[e9,eW.st]at JB;cases JB
  obtain⟨z6,CQ,dr,fY⟩:∃z6 CQ,G.bv = .slice z6 p.lp.m CQ∧∀t H',cA vQ H' (G.on t) p.lp.m (p.w+1) p.lp.m (dP p) p.unit→∀i,i<p.lp.m→Rd H' z6 (eL p.unit p.lp.m):=by
   rcases eW.cZ.basis with ⟨h1,h2,h3⟩ | ⟨gb,cb,sz,h1,h2,h3⟩
   ·exact⟨none,0,by rw[h3,h1],fun _ _ _ i hi=>by omega⟩
   ·
    refine⟨_,cb,h2,fun t H' h' i hi=> ?_⟩
    rcases h'.basis with ⟨k1,k2,k3⟩ | ⟨CE,M6,eV,k1,k2,k3⟩
    ·omega
    ·
     have k1:G.bb = [CE]:=k1;rw[h1]at k1;cases k1;exact dW k3
  obtain⟨D8,Tc⟩:=eW.cZ.apart (e:=⟨cD [.int .i64 0,.int .i64 0] ((p.w+1)*2),(p.w+1)*2,163,true⟩) JB;have TA:QY false (rem H5 G.gs) (ins H5 z ⟨cD [.int .i64 0,.int .i64 0] ((p.w+1)*2),(p.w+1)*2,163,true⟩) g G p.lp.m (p.w+1) p.lp.m (dP p) p.unit z (fun _=>0) 0:=⟨⟨D8,List.mem_cons_of_mem _ eW.gt,by rw[bg _ _ (Ne.symm ou)];exact eW.st⟩,⟨_,bF _ _ _,S6⟩,ou,by rw[Tc];exact .refl _⟩
  generalize ins H5 z ⟨cD [.int .i64 0,.int .i64 0] ((p.w+1)*2),(p.w+1)*2,163,true⟩=H6 at *
  refine ab 1 rfl (ae [3,4,11,12,20,25] ?_);refine aq (ag (ab 3 rfl (ae [3,4,11,12,20,25,100,101] ?_)));refine aG (fG (fun(k:Nat)(f:Nat→Rat)(o1:Bool)=>p.w+1-k) (fun(k:Nat)(f:Nat→Rat)(o1:Bool)=>put (put (put (put (put (put (put (put (emp) 3 (.val (.int .i64 (p.u:Int)))) 4 (.val (.pointer (some ⟨g4,0,none⟩)))) 11 (.val (.pointer (some ⟨g,0,none⟩)))) 12 (.val (.int .i64 ((p.w+1:Nat):Int)))) 20 (.val (.slice A5 c.length c5))) 25 (.val (.slice (some ⟨z,0,none⟩) (p.w+1) (p.w+1)))) 100 (.val (.int .i64 ((p.w+1:Nat):Int)))) 101 (.val (.int .i64 (k:Int)))) (fun(k:Nat)(f:Nat→Rat)(o1:Bool) H'=>QY o1 (rem H5 G.gs) H' g G p.lp.m (p.w+1) p.lp.m (dP p) p.unit z f k∧(o1=false→∀j,j<k→f j=rA p (dP p) j)∧k≤p.w+1) 0 (fun _=>0) false (⟨TA,fun _ j hj=>absurd hj (Nat.not_lt_zero _),Nat.zero_le _⟩) au ?_);rintro k f o1 H7 ⟨hY,hf,hk⟩;obtain⟨zs,qG,sM⟩:=hY.row;have AR:=Nn sM hk;refine ag (ab 1 rfl (ae [3,4,11,12,20,25,100,101,102] ?_));refine aq (aD rfl (fun hb=> ?_) (fun hb=> ?_))
  ·
   have fq:k<p.w+1:=by simp at hb;omega
   have vg:=hY.put (o':=o1) ((Kept.refl _ _).iO _) hY.q.st (S4 (f:=bY f k 0) (aj7 sM fun j hj=>pL (by omega)) fq (by rw[rp];exact E0));refine aA (aj [3,4,11,12,20,25,100,101] rfl ?_);refine aq (aG (ag (ab 2 rfl (ae [3,4,11,12,20,25,26,100,101] ?_))));refine ag (ab 2 rfl (de ah rfl fP rfl rfl ?_));obtain⟨ti,ak,al⟩:=eE;refine cV (.inl rfl) ah rfl rfl rfl (by omega) (by omega) (qG) rfl (by show 0+(p.w+1)*2≤zs.length;omega) ak al (fun _=>rfl) rfl rfl rfl fun _=> ?_;refine ae [3,4,11,12,20,25,26,100,101] ?_;rw[Fa,Int.toNat_natCast];refine ag (ab 2 rfl (aV ah rfl rfl rfl (aT ah rfl rfl rfl (show cell _ _=some (.slice z6 p.lp.m CQ)from by rw[←dr];exact vg.q.mY) ?_)));refine ab 2 rfl (ae [3,4,11,12,20,25,26,100,101,112,113] ?_);refine aG (fG (fun(i:Nat)(f2:Nat→Rat)(o2:Bool)=>p.lp.m-i) (fun(i:Nat)(f2:Nat→Rat)(o2:Bool)=>put (put (put (put (put (put (put (put (put (put (put (emp) 3 (.val (.int .i64 (p.u:Int)))) 4 (.val (.pointer (some ⟨g4,0,none⟩)))) 11 (.val (.pointer (some ⟨g,0,none⟩)))) 12 (.val (.int .i64 ((p.w+1:Nat):Int)))) 20 (.val (.slice A5 c.length c5))) 25 (.val (.slice (some ⟨z,0,none⟩) (p.w+1) (p.w+1)))) 26 (.val (.int .i64 (k:Int)))) 100 (.val (.int .i64 ((p.w+1:Nat):Int)))) 101 (.val (.int .i64 (k:Int)))) 112 (.val (.int .i64 (p.lp.m:Int)))) 113 (.val (.int .i64 (i:Int)))) (fun(i:Nat)(f2:Nat→Rat)(o2:Bool) H'=>QY o2 (rem H5 G.gs) H' g G p.lp.m (p.w+1) p.lp.m (dP p) p.unit z f2 (k+1)∧(o2=false→(∀j,j<k→f2 j=rA p (dP p) j)∧f2 k=rC p (dP p) k i)∧i≤p.lp.m) 0 (bY f k 0) o1 (⟨vg,fun h9=>⟨fun j hj=>by rw[pL (by omega)];exact hf h9 j hj,by rw[rp,aa0]⟩,Nat.zero_le _⟩) au ?_)
   rintro i f2 o2 H8 ⟨hV,hF,hi⟩;obtain⟨ws,sX,nZ⟩:=hV.row;have p9:=Nn nZ (show k+1≤p.w+1 by omega);refine ag (ab 1 rfl (ae [3,4,11,12,20,25,26,100,101,112,113,114] ?_));refine aq (aD rfl (fun hb=> ?_) (fun hb=> ?_))
   ·
    have aU:i<p.lp.m:=by simpa using hb
    have yc:=fY _ _ hV.q.cZ i aU;refine aA (aj [3,4,11,12,20,25,26,100,101,112,113] rfl ?_);refine aq (aG (ag (ab 2 rfl (ae [3,4,11,12,20,25,26,27,100,101,112,113] ?_))));refine kI (fun(b0:Bool)=>put (put (put (put (put (put (put (put (put (put (put (put (put (emp) 3 (.val (.int .i64 (p.u:Int)))) 4 (.val (.pointer (some ⟨g4,0,none⟩)))) 11 (.val (.pointer (some ⟨g,0,none⟩)))) 12 (.val (.int .i64 ((p.w+1:Nat):Int)))) 20 (.val (.slice A5 c.length c5))) 25 (.val (.slice (some ⟨z,0,none⟩) (p.w+1) (p.w+1)))) 26 (.val (.int .i64 (k:Int)))) 27 (.val (.int .i64 (i:Int)))) 100 (.val (.int .i64 ((p.w+1:Nat):Int)))) 101 (.val (.int .i64 (k:Int)))) 112 (.val (.int .i64 (p.lp.m:Int)))) 113 (.val (.int .i64 (i:Int)))) 135 (.val (.bool b0))) (fun(b0:Bool) H'=>H'=H8∧(b0=true↔p.u≤p.unit i∧(k<p.u∨k=p.w))) ?_ ?_
    ·
     by_cases h1:p.u≤p.unit i
     ·
      skip
      by_cases h2:k<p.u
      ·
       skip
       refine aC rfl (ab 2 rfl (aV ah rfl rfl rfl (aT ah rfl rfl rfl (show cell _ _=some (.slice z6 p.lp.m CQ)from by rw[←dr];exact hV.q.mY) ?_)));refine ab 1 rfl (aS ah rfl rfl rfl rfl rfl (yc) (by rw[Int.toNat_natCast];exact gO aU) (by omega) (by omega) fun _=> ?_);refine ab 1 rfl (aJ true rfl rfl (rS (by omega)) (ab 3 rfl (aJ true rfl rfl (jS (by omega)) (ab 7 rfl (az ?_)))));exact⟨_,au,rfl,by simp[h1,h2]⟩
      skip
      by_cases h3:k=p.w
      ·
       skip
       refine aC rfl (ab 2 rfl (aV ah rfl rfl rfl (aT ah rfl rfl rfl (show cell _ _=some (.slice z6 p.lp.m CQ)from by rw[←dr];exact hV.q.mY) ?_)));refine ab 1 rfl (aS ah rfl rfl rfl rfl rfl (yc) (by rw[Int.toNat_natCast];exact gO aU) (by omega) (by omega) fun _=> ?_);refine ab 1 rfl (aJ true rfl rfl (rS (by omega)) (ab 3 rfl (aJ false rfl rfl (iC (by omega)) (ab 3 rfl (cY rfl rfl ⟨by omega,by omega⟩ (aJ true rfl rfl (jR (by omega)) (ab 2 rfl (az ?_))))))));exact⟨_,au,rfl,by simp[h1,h3]⟩
      skip
      refine aC rfl (ab 2 rfl (aV ah rfl rfl rfl (aT ah rfl rfl rfl (show cell _ _=some (.slice z6 p.lp.m CQ)from by rw[←dr];exact hV.q.mY) ?_)));refine ab 1 rfl (aS ah rfl rfl rfl rfl rfl (yc) (by rw[Int.toNat_natCast];exact gO aU) (by omega) (by omega) fun _=> ?_);refine ab 1 rfl (aJ true rfl rfl (rS (by omega)) (ab 3 rfl (aJ false rfl rfl (iC (by omega)) (ab 3 rfl (cY rfl rfl ⟨by omega,by omega⟩ (aJ false rfl rfl (lD (by omega)) (ab 2 rfl (az ?_))))))));exact⟨_,au,rfl,by simp[h1,h2,h3]⟩
     skip
     refine aC rfl (ab 2 rfl (aV ah rfl rfl rfl (aT ah rfl rfl rfl (show cell _ _=some (.slice z6 p.lp.m CQ)from by rw[←dr];exact hV.q.mY) ?_)));refine ab 1 rfl (aS ah rfl rfl rfl rfl rfl (yc) (by rw[Int.toNat_natCast];exact gO aU) (by omega) (by omega) fun _=> ?_);refine ab 1 rfl (aJ false rfl rfl (AV (by omega)) (ab 11 rfl (az ?_)));exact⟨_,au,rfl,by simp[h1]⟩
    rintro b0 H9 ⟨e9,iS⟩;rw[e9];clear e9 H9;refine aD rfl (fun hb=> ?_) (fun hb=> ?_)
    ·
     have TB:=iS.1 (by simpa using hb);obtain⟨pi,cU⟩:=eW.cZ.get aU;obtain⟨xs8,rj,anx,rD⟩:=hV.q.rk;obtain⟨xi8,si8,TC,TD⟩:=hV.q.row (G:=G.on _) cU;obtain⟨n5,d5,Dh,nG⟩:=aj5 nZ (Nat.lt_succ_self k) (show k+1≤p.w+1 by omega);obtain⟨n6,d6,wh,qV,_⟩:=m0 TD fq;have bm:=I7 g H8;refine ep (.cO (lx g H8)) [0,1,2,3,4,5,6,7,8,9,10,11,12,13,14,15,16,17,18,19] follows (ia [0,0,0,0,0,24,56,0,128,384,896,0,3968,8064,0,32640,65408,131068,262143,524287] (by kernel_rfl)) ?_;refine eN bm rfl (eN bm rfl (eN bm rfl (eN bm rfl (eN bm rfl (CA bm ah rfl rfl rfl rfl (zN sX ou) rfl (by decide) (by rw[Int.toNat_natCast];exact nG) (by omega) (by omega) fun _=> ?_)))));refine eN bm rfl (ml bm rfl (mm bm ah rfl rfl rfl (ki bm ah rfl rfl rfl (hV.q.k0) (eN bm rfl (Cz bm ah rfl rfl rfl rfl rfl (rj) (by rw[Int.toNat_natCast];exact rD i pi cU) (by omega) (by omega) fun _=> ?_)))));refine eN bm rfl (CA bm ah rfl rfl rfl rfl (zN TC (hV.q.xP (G:=G.on _) cU)) rfl (by decide) (by rw[Int.toNat_natCast];exact qV) (by omega) (by omega) fun _=> ?_);refine CB rfl rfl (Su hV.q.mem hV.q.st Dh wh) (fun v H9 oB=>by obtain⟨k1,_,_,_,_,_,k2,_⟩:=oB;exact hV.q.fN k1 k2) ?_
     rintro v9 H9 ⟨yd,vs9,o9,q9,rfl,aa7,Fg,fK⟩;obtain⟨n9,d9,rfl,_⟩:=id aa7;have bm:=hV.q.fN yd Fg;have aki:=(yd.same z QZ.m7 ou).trans sX;have ye:=hV.put yd Fg (aj6 nZ fq aa7);obtain⟨ti,ak,al⟩:=eE;refine MR bm ah rfl rfl rfl (by omega) (by omega) (aki) rfl (by show (p.w+1)*2≤ws.length;omega) ak al (fun _=>rfl) rfl rfl rfl fun _=> ?_;refine az (aj [3,4,11,12,20,25,26,100,101,112,113] rfl ?_);refine aC rfl (aH rfl rfl ⟨by omega,by omega⟩ (ab 1 rfl (az ?_)));exact⟨i+1,bY f2 k q9,o9,by omega,au,ye,fun h9=>⟨fun j hj=>by rw[pL (by omega)];exact(hF (fK h9).1).1 j hj,by rw[rp,(fK h9).2,(hF (fK h9).1).2,aa1 TB]⟩,by omega⟩
    have TE:¬(p.u≤p.unit i∧(k<p.u∨k=p.w)):=fun h9=>by have:=iS.2 h9;simp[this]at hb
    refine aA (aj [3,4,11,12,20,25,26,100,101,112,113] rfl ?_);refine aC rfl (aH rfl rfl ⟨by omega,by omega⟩ (ab 1 rfl (az ?_)));exact⟨i+1,f2,o2,by omega,au,hV,fun h9=>⟨(hF h9).1,by rw[(hF h9).2,aa2 TE]⟩,by omega⟩
   have aU:p.lp.m≤i:=by simpa using hb
   obtain rfl:i=p.lp.m:=by omega
   rw[aa3]at hF;refine aW (aj [3,4,11,12,20,25,100,101] rfl ?_);refine aC rfl (aH rfl rfl ⟨by omega,by omega⟩ (ab 1 rfl (az ?_)))
   exact⟨k+1,f2,o2,by omega,au,hV,fun h9 j hj=>by
    by_cases ej:j=k
    ·subst ej;exact(hF h9).2
    ·exact(hF h9).1 j (by omega),by omega⟩
  have fq:p.w+1≤k:=by simp at hb;omega
  obtain rfl:k=p.w+1:=by omega
  have hzE:=S5 sM;have Tv:pK vQ (rem H7 (G.on (z::G.top)).gs) H7 z (aL f (p.w+1)):=⟨_,_,qG,hzE⟩;refine aW (aj [3,4,11,12,20,25] rfl ?_);refine ag (ab 3 rfl (aV ah rfl rfl rfl (aT ah rfl rfl rfl (hY.q.ja) (ab 1 rfl (cR Tryz.underlying158 Dm rfl rfl rfl rfl rfl rfl rfl ?_)))));intro gb bo;obtain⟨vh,s0⟩:=hY.q.fresh (e:=whole [.slice (some ⟨z,0,none⟩) (p.w+1) (p.w+1)] 161) bo;have Tx:pK vQ (rem (ins H7 gb (whole [.slice (some ⟨z,0,none⟩) (p.w+1) (p.w+1)] 161)) (G.on (z::G.top)).gs) (ins H7 gb (whole [.slice (some ⟨z,0,none⟩) (p.w+1) (p.w+1)] 161)) z (aL f (p.w+1)):=Tv.le s0 (bg _ _ fun(e9:z=gb)=>by rw[←e9,qG]at bo;cases bo);refine dK Tryz.underlying158 Dm rfl rfl vh.cZ.rows (dE _ _ _ _ _ _) rfl (B9 _ _ _) (by omega) (by omega) ?_;intro v8 H8 jJ;obtain⟨A8,c8,rfl⟩:=jJ.own.form;rw[show jc (G.on (z::G.top)).rg (p.w+1)++cF [Value.slice (some ⟨z,0,none⟩) (p.w+1) (p.w+1)]=jc (G.rg ++ [(z,p.w+1)]) (p.w+1)from aa4]at jJ;obtain⟨fK,iJ,Fg⟩:=vh.more (G:=G) hq.gt ou Tx jJ;have iJ:=hY.le.trans (s0.trans iJ);obtain⟨M9,yf⟩:∃M9,M9=(fun i=>if i=p.lp.m then f else dP p i):=⟨_,rfl⟩;rw[←yf]at fK;obtain⟨G9,kB⟩:∃G9,G9=G.more G.top z (p.w+1) A8 c8 p.lp.m:=⟨_,rfl⟩
  rw[←kB]at fK iJ
  have gZ:Na o1 o1 (mA p) M9 p.unit p.lp.m (p.w+1) (if o1 then none else some (x6 M9 p.unit p.lp.m p.w)):=by
   cases o1 with
   | true=>rfl
   | false=>
    refine⟨rfl,rfl,aaH bx (fun i hi j hj=>by rw[yf];show (if i=p.lp.m then f else dP p i) j=_;rw[if_neg (by omega)]) (fun j hj=> ?_),Np⟩
    have e7:rA p M9 j=rA p (dP p) j:=by
     unfold rA
     split
     ·
      congr 1
      refine eS fun i hi=> ?_;rw[yf]
      show (if _ then(if i=p.lp.m then f else dP p i) j else 0)=_
      rw[if_neg (show ¬i=p.lp.m by omega)]
     ·rfl
    rw[e7,←hf rfl j (by omega),yf]
    show (if p.lp.m=p.lp.m then f else _) j=_
    rw[if_pos rfl]
  have akj:∀T,(if o1 then none else some (x6 M9 p.unit p.lp.m p.w))=some T→Acc (ar.Step p.u) T:=fun T hT=>by
   cases o1 with
   | true=>cases hT
   | false=>cases hT;exact gZ.2.2.1.acc
  have TF:∀i,i<p.lp.m→p.unit i<p.w+1:=fun i hi=>Nat.lt_succ_of_lt (ow p hi);refine ab 1 rfl (aV ah rfl rfl rfl ?_);obtain⟨ti,ak,al⟩:=Ky;refine ma (g:=g) (o:=0) (.inl rfl) rfl Fg rfl (by show 0+1≤3;omega) ak al rfl rfl rfl rfl ?_;refine ae [3,4,11,12,20] ?_;refine ag (ab 2 rfl (aF rfl rfl (aax fK (by omega) (by omega) (by omega) (fun T r s=>mA.step) gZ akj TF) ?_));rintro _ xC ⟨Fh,Nx,o10,TH,rfl,oD,EM,akk,TI⟩;have z7:=iJ.trans EM;refine ae [3,4,11,12,20] ?_;refine aq (ag (ab 2 rfl (aV ah rfl rfl rfl (aT ah rfl rfl rfl (oD.SE) (ae [3,4,11,12,20,173] ?_)))));refine aD rfl (fun hb=> ?_) (fun hb=> ?_)
  ·
   skip
   refine ag (ab 3 rfl (ae [8,9,10] ?_));refine aE ⟨.inr rfl,_,.tmp rfl (.tmp rfl (.tmp rfl (.nil))),?_⟩;exact⟨0,.slice none 0 0,false,rfl,dV.trans (gq.trans (z7.trans (bt _ _))),fun h9=>by cases h9⟩
  have hb:o10=false:=by simpa using hb
  subst hb;obtain⟨_,T,hT,jd,qd,pO⟩:=akk rfl
  have JF:∀j,j<p.u→0≤T.c j:=fun j hj=>by
   cases TH with
   | true=>rw[←jd.ec j (by omega)];exact qd rfl j hj
   | false=>
    obtain⟨s,k1,k2,k3⟩:=pO rfl;exact(hT.aaF k1 (by rw[←jd.ec s (by omega)];exact k2) fun i hi=>by rw[jd.em]at hi;rw[←jd.eA i hi s (by omega)];exact k3 i hi).elim
  obtain⟨pm,sV⟩:=oD.cZ.get (Nat.lt_succ_self p.lp.m);obtain⟨xm,sm,CG,CH⟩:=oD.row sV;obtain⟨anz,Iq,aa8,z8⟩:=oD.rk;obtain⟨nm,dm,hfm,tq,i1,i2,i3,i4,tr⟩:=m0 CH (show p.w<p.w+1 by omega);refine aA (aj [3,4,11,12,20] rfl ?_);refine aq (bP .bJ [0,1,2,3,4,5,6,7,8,9,10,11,12,13,14,15,16,17] follows (ia [0,1,3,7,0,16,48,112,240,496,1023,2047,0,4096,16383,32767,65535,131071] (by kernel_rfl)) ?_);refine ab 2 rfl (aV ah rfl rfl rfl (aT ah rfl rfl rfl (oD.ja) (ab 2 rfl (aV ah rfl rfl rfl (aT ah rfl rfl rfl (oD.ja) (ab 1 rfl (cY rfl rfl ⟨by omega,by omega⟩ (aS ah rfl rfl rfl rfl rfl (aa8) (by rw[show (((p.lp.m+1:Nat):Int)-1).toNat=p.lp.m by omega];exact z8 _ pm sV) (by omega) (by omega) fun _=> ?_))))))));refine ab 1 rfl (cY rfl rfl ⟨by omega,by omega⟩ (nR ah rfl rfl rfl rfl rfl rfl rfl (dW CG) (by rw[show (((p.w+1:Nat):Int)-1).toNat=p.w by omega];exact tq 0 _ rfl) (by omega) (by omega) fun _ _=> ?_));refine ab 1 rfl (ae [3,4,11,12,20,191] ?_);refine aD rfl (fun hb=> ?_) (fun hb=> ?_)
  ·
   have hb:nm≠0:=by simpa using hb
   have JG:p.lp.wX:=hT.inf bx JF (by rw[←jd.ec _ (Nat.lt_succ_self _),tr];exact fun h9=>hb ((ur i3).1 h9));refine ag (ab 3 rfl (ae [8,9,10] ?_));refine aE ⟨.inr rfl,_,.tmp rfl (.tmp rfl (.tmp rfl (.nil))),?_⟩;exact⟨2,.slice none 0 0,true,rfl,dV.trans (gq.trans (z7.trans (bt _ _))),fun _=> .inr ⟨by decide,.inr (.inl ⟨rfl,JG,rfl⟩)⟩⟩
  have hb:nm=0:=by simpa using hb
  have TJ:je p 0 T:=hT.clean JF (by rw[←jd.ec _ (Nat.lt_succ_self _),tr];exact(ur i3).2 hb);obtain⟨kz,IU,CD,R2,anA⟩:=oD.less;refine aA (aj [3,4,11,12,20] rfl ?_);refine bP .gH [0,1,2,3,4,5,6,7,8,9,10,11,12,13,14] follows (by kernel_rfl) ?_;refine ab 3 rfl (aV ah rfl rfl rfl (aT ah rfl rfl rfl (oD.ja) (ab 2 rfl (aV ah rfl rfl rfl (aT ah rfl rfl rfl (oD.ja) (ab 1 rfl (cY rfl rfl ⟨by omega,by omega⟩ ?_)))))));rw[show ((p.lp.m+1:Nat):Int)-1=((p.lp.m:Nat):Int) by omega];refine tt ah rfl rfl (.inl ⟨rfl,rfl⟩) (.inr ⟨_,_,rfl,rfl⟩) (by omega) (by omega) ?_;rw[AY,Nat.sub_zero,Nat.sub_zero];refine ab 1 rfl (aV ah rfl rfl rfl ?_);obtain⟨ti,ak,al⟩:=Ky;refine ma (g:=g) (o:=0) (.inr rfl) rfl oD.st rfl (by show 0+1≤3;omega) ak al rfl rfl rfl rfl ?_;refine ae [3,4,11,12,20] ?_;refine SA IU ?_;have aa9:=z7.trans R2;clear IU CH hfm tq CG aa8 z8 Iq;obtain⟨iw,akl⟩:∃iw,iw=G9.less p.lp.m:=⟨_,rfl⟩;rw[←akl]at CD aa9;refine aq ?_;obtain⟨Ny,Nz,sy,BQ⟩:=CD.sZ;refine ag (ab 2 rfl (aV ah rfl rfl rfl (aT ah rfl rfl rfl (show cell _ _=some (.slice Ny p.lp.m Nz)from by rw[←sy];exact CD.mY) ?_)))
  refine ab 2 rfl (ae [3,4,11,12,20,210,211] ?_);refine aG (oU (fun(i:Nat)(M1:Nat→Nat→Rat)(B1:Nat→Nat)(o1:Bool)=>p.lp.m-i) (fun(i:Nat)(M1:Nat→Nat→Rat)(B1:Nat→Nat)(o1:Bool)=>put (put (put (put (put (put (put (emp) 3 (.val (.int .i64 (p.u:Int)))) 4 (.val (.pointer (some ⟨g4,0,none⟩)))) 11 (.val (.pointer (some ⟨g,0,none⟩)))) 12 (.val (.int .i64 ((p.w+1:Nat):Int)))) 20 (.val (.slice A5 c.length c5))) 210 (.val (.int .i64 (p.lp.m:Int)))) 211 (.val (.int .i64 (i:Int)))) (fun(i:Nat)(M1:Nat→Nat→Rat)(B1:Nat→Nat)(o1:Bool) H'=>QV o1 H' g iw p.lp.m (p.w+1) p.lp.m M1 B1∧Heap.le (rem H5 G.gs) (rem H' iw.gs)∧(∀q,q<p.lp.m→B1 q<p.w+1)∧(o1=false→∃T,je p i T∧ib M1 B1 T p.lp.m (p.w+1))∧i≤p.lp.m) 0 Fh Nx false (⟨CD,aa9,TI,fun _=>⟨T,TJ,jd⟩,Nat.zero_le _⟩) au ?_);rintro i M1 B1 o1 dN ⟨vF,nI,TK,aba,hi⟩;refine ag (ab 1 rfl (ae [3,4,11,12,20,210,211,212] ?_));refine aq (aD rfl (fun hb=> ?_) (fun hb=> ?_))
  ·
   have aU:i<p.lp.m:=by simpa using hb
   obtain⟨pi,cU⟩:=vF.cZ.get aU
   have TM:o1=false→(∃T,je p i T∧ib M1 B1 T p.lp.m (p.w+1)∧p.u≤B1 i∧∀j,j<0→M1 i j=0)∨(B1 i<p.u∧∃T,je p (i+1) T∧ib M1 B1 T p.lp.m (p.w+1)):=fun h9=>by
    obtain⟨T,k1,k2⟩:=aba h9
    by_cases hu:B1 i<p.u
    ·exact .inr ⟨hu,T,k1.skip (by rw[k2.em];exact aU) (.inl (by rw[←k2.eB i aU];exact hu)),k2⟩
    ·exact .inl ⟨T,k1,k2,by omega,fun j hj=>absurd hj (Nat.not_lt_zero _)⟩
   refine aA (aj [3,4,11,12,20,210,211] rfl ?_);refine aq (aG (ag (ab 2 rfl (ae [3,4,11,12,20,28,210,211] ?_))));refine ag (ab 1 rfl (ae [3,4,11,12,20,28,29,210,211] ?_));refine aG (oU (fun(k:Nat)(M2:Nat→Nat→Rat)(B2:Nat→Nat)(o2:Bool)=>p.u-k) (fun(k:Nat)(M2:Nat→Nat→Rat)(B2:Nat→Nat)(o2:Bool)=>put (put (put (put (put (put (put (put (put (emp) 3 (.val (.int .i64 (p.u:Int)))) 4 (.val (.pointer (some ⟨g4,0,none⟩)))) 11 (.val (.pointer (some ⟨g,0,none⟩)))) 12 (.val (.int .i64 ((p.w+1:Nat):Int)))) 20 (.val (.slice A5 c.length c5))) 28 (.val (.int .i64 (i:Int)))) 29 (.val (.int .i64 (k:Int)))) 210 (.val (.int .i64 (p.lp.m:Int)))) 211 (.val (.int .i64 (i:Int)))) (fun(k:Nat)(M2:Nat→Nat→Rat)(B2:Nat→Nat)(o2:Bool) H'=>QV o2 H' g iw p.lp.m (p.w+1) p.lp.m M2 B2∧Heap.le (rem H5 G.gs) (rem H' iw.gs)∧(∀q,q<p.lp.m→B2 q<p.w+1)∧(o2=false→(∃T,je p i T∧ib M2 B2 T p.lp.m (p.w+1)∧p.u≤B2 i∧∀j,j<k→M2 i j=0)∨(B2 i<p.u∧∃T,je p (i+1) T∧ib M2 B2 T p.lp.m (p.w+1)))∧k≤p.u) 0 M1 B1 o1 (⟨vF,nI,TK,TM,Nat.zero_le _⟩) au ?_);rintro k M2 B2 o2 mo ⟨sG,qj,Aa,CR,LF⟩;have abb:=BQ sG i aU;refine aq ?_
   by_cases CI:k<p.u
   ·
    skip
    by_cases h2u:p.u≤B2 i
    ·
     obtain⟨ajg,xG,aao,Je⟩:=sG.rk;obtain⟨MX,aap,zP,uy⟩:=sG.row cU;obtain⟨nk,dk,NA,hck,j1,j2,j3,j4,jU⟩:=m0 uy (show k<p.w+1 by omega);refine ag (ab 2 rfl (aJ true rfl rfl (jS (by omega)) (ab 3 rfl (aV ah rfl rfl rfl (aT ah rfl rfl rfl (show cell _ _=some (.slice Ny p.lp.m Nz)from by rw[←sy];exact sG.mY) ?_)))));refine ab 1 rfl (aS ah rfl rfl rfl rfl rfl (abb) (by rw[Int.toNat_natCast];exact gO aU) (by omega) (by omega) fun _=> ?_);refine ab 1 rfl (aJ true rfl rfl (rS (by omega)) (ab 1 rfl (ae [3,4,11,12,20,28,29,210,211,227] ?_)));refine dJ rfl (aA (aj [3,4,11,12,20,28,29,210,211] rfl ?_));refine aq (aG (ag (ab 2 rfl (aV ah rfl rfl rfl (aT ah rfl rfl rfl (sG.ja) (ab 1 rfl (aS ah rfl rfl rfl rfl rfl (aao) (by rw[Int.toNat_natCast];exact Je i pi cU) (by omega) (by omega) fun _=> ?_)))))));refine ab 1 rfl (nR ah rfl rfl rfl rfl rfl rfl rfl (dW zP) (by rw[Int.toNat_natCast];exact hck 0 _ rfl) (by omega) (by omega) fun _ _=> ?_);refine ab 1 rfl (ae [3,4,11,12,20,28,29,210,211,241] ?_)
     refine aD rfl (fun hb=> ?_) (fun hb=> ?_)
     ·
      have hb:nk≠0:=by simpa using hb
      have a7:M2 i k≠0:=by rw[jU];exact fun h9=>hb ((ur j3).1 h9)
      refine aC rfl (ab 3 rfl (aF rfl rfl (aaj sG aU aU (show k<p.w+1 by omega) a7 (by omega) (by omega)) ?_));rintro v14 qu ⟨M3,o3,MY,akm,zW⟩;refine az (aj [3,4,11,12,20,28,29,210,211] rfl ?_);refine aC rfl (ab 1 rfl (aH rfl rfl ⟨by omega,by omega⟩ (ab 1 rfl (az ?_))));obtain⟨M5,JH⟩:∃M5:Nat→Nat→Rat,M5=fun q=>if q=p.lp.m then mz M2 i k p.lp.m else M3 q:=⟨_,rfl⟩
      have JI:∀q,q<p.lp.m→M5 q=M3 q:=fun q hq=>by rw[JH];show (if q=p.lp.m then _ else M3 q)=_;rw[if_neg (by omega)]
      exact⟨k+1,M5,_,o3,by omega,au,MY.CP fun q hq j _=>by rw[JI q hq],qj.trans zW,fun q hq=>by
       show (if q=i then k else B2 q)<_
       split
       ·omega
       ·exact Aa q hq,fun h9=>by
       obtain⟨h8,sq⟩:=akm h9
       rcases CR h8 with ⟨T,k1,k2,k3,k4⟩ | ⟨k1,_⟩
       ·
        refine .inr ⟨by rw[if_pos rfl];exact CI,T.pivot i k,k1.pivot (by rw[k2.em];exact aU) (by rw[←k2.eB i aU];exact k3) CI (by rw[←k2.eA i aU k (by omega)];exact a7),k2.pivot aU (by omega) fun q hq j hj=> ?_⟩
        by_cases e:q=p.lp.m
        ·
         subst e;rw[JH]
         show (if p.lp.m=p.lp.m then _ else M3 _) j=_
         rw[if_pos rfl]
        ·rw[JI q (by omega)];exact sq q (by omega) j hj
       ·omega,by omega⟩
     have hb:nk=0:=by simpa using hb
     refine aA (aj [3,4,11,12,20,28,29,210,211] rfl ?_);refine aC rfl (ab 1 rfl (aH rfl rfl ⟨by omega,by omega⟩ (ab 1 rfl (az ?_))))
     exact⟨k+1,M2,B2,o2,by omega,au,sG,qj,Aa,fun h9=>by
      rcases CR h9 with ⟨T,k1,k2,k3,k4⟩ | h8
      ·
       refine .inl ⟨T,k1,k2,k3,fun j hj=> ?_⟩
       by_cases e:j=k
       ·subst e;rw[jU];exact(ur j3).2 hb
       ·exact k4 j (by omega)
      ·exact .inr h8,by omega⟩
    have hD:o2=false→∃T,je p (i+1) T∧ib M2 B2 T p.lp.m (p.w+1):=fun h9=>by
     rcases CR h9 with ⟨T,_,_,k3,_⟩ | h8
     ·omega
     ·exact h8.2
    refine ag (ab 2 rfl (aJ true rfl rfl (jS (by omega)) (ab 3 rfl (aV ah rfl rfl rfl (aT ah rfl rfl rfl (show cell _ _=some (.slice Ny p.lp.m Nz)from by rw[←sy];exact sG.mY) ?_)))));refine ab 1 rfl (aS ah rfl rfl rfl rfl rfl (abb) (by rw[Int.toNat_natCast];exact gO aU) (by omega) (by omega) fun _=> ?_);refine ab 1 rfl (aJ false rfl rfl (AV (by omega)) (ab 1 rfl (ae [3,4,11,12,20,28,29,210,211,227] ?_)));refine dR rfl (aW (aj [3,4,11,12,20,210,211] rfl ?_));refine aC rfl (aH rfl rfl ⟨by omega,by omega⟩ (ab 1 rfl (az ?_)));exact⟨i+1,M2,B2,o2,by omega,au,sG,qj,Aa,hD,by omega⟩
   have hD:o2=false→∃T,je p (i+1) T∧ib M2 B2 T p.lp.m (p.w+1):=fun h9=>by
    rcases CR h9 with ⟨T,k1,k2,k3,k4⟩ | h8
    ·exact⟨T,k1.skip (by rw[k2.em];exact aU) (.inr fun j hj=>by rw[←k2.eA i aU j (by omega)];exact k4 j (by omega)),k2⟩
    ·exact h8.2
   refine ag (ab 2 rfl (aJ false rfl rfl (iC (by omega)) (ab 11 rfl (ae [3,4,11,12,20,28,29,210,211,227] ?_))));refine dR rfl (aW (aj [3,4,11,12,20,210,211] rfl ?_));refine aC rfl (aH rfl rfl ⟨by omega,by omega⟩ (ab 1 rfl (az ?_)));exact⟨i+1,M2,B2,o2,by omega,au,sG,qj,Aa,hD,by omega⟩
  have aU:p.lp.m≤i:=by simpa using hb
  obtain rfl:i=p.lp.m:=by omega
  have fI:ea N (rem dN iw.gs) (.agg #[fv,fL]) p:=hp.le (dV.trans (gq.trans nI));have akn:=CL.le zV nI;have oR:p.lp.n≤400:=aa6;refine aW (aj [3,4,11,12,20] rfl ?_);have bm:=I7 g dN;refine bP (.cO (lx g dN)) [0,1,2,3,4,5,6,7,8,9,10,11,12,13,14] follows (by kernel_rfl) ?_;refine eN bm rfl (eN bm rfl (ml bm rfl (mm bm ah rfl rfl rfl (ki bm ah rfl rfl rfl (vF.k0) (eN bm rfl (I8 bm ah rfl rfl rfl (((BM.le (gq.trans nI)).kx vF.mem).at) (eN bm rfl (eN bm rfl (CB rfl rfl (ajz vF fI akn fo (by omega) TK (by omega) (by omega)) (fun v H9 oB=>by obtain⟨_,_,_,_,k1,_⟩:=oB;exact vF.fN k1.iO k1.q.st) ?_)))))))));rintro SR mX ⟨z5,f5,o5,rfl,qw,kR⟩;have bm:=vF.fN qw.iO qw.q.st;obtain⟨z5s,abc,ako⟩:=qw.row;have akp:pK vQ (rem mX (iw.on (z5::iw.top)).gs) mX z5 (aL f5 (p.w+1)):=⟨_,_,abc,ako⟩;refine Em Tryz.underlying158 Dm rfl rfl ?_;intro gb bo;obtain⟨vh,s0⟩:=qw.q.fresh (e:=whole [.slice (some ⟨z5,0,none⟩) (p.w+1) (p.w+1)] 161) bo;have akq:pK vQ (rem (ins mX gb (whole [.slice (some ⟨z5,0,none⟩) (p.w+1) (p.w+1)] 161)) (iw.on (z5::iw.top)).gs) (ins mX gb (whole [.slice (some ⟨z5,0,none⟩) (p.w+1) (p.w+1)] 161)) z5 (aL f5 (p.w+1)):=akp.le s0 (bg _ _ fun(e9:z5=gb)=>by rw[←e9,abc]at bo;cases bo)
  have bm:(Mode.cO (lx g dN)).fN (ins mX gb (whole [.slice (some ⟨z5,0,none⟩) (p.w+1) (p.w+1)] 161)):=fun ad u hu=>cN (Heap.bC _ bo) (bm ad u hu);refine En Tryz.underlying158 Dm rfl rfl vh.cZ.rows (dE _ _ _ _ _ _) rfl (B9 _ _ _) (by omega) (by omega) bm ?_;intro v16 Fi Fj;have bm:(Mode.cO (lx g dN)).fN Fi:=fun ad u hu=>cN Fj.le (bm ad u hu);obtain⟨TN,TO,rfl⟩:=Fj.own.form;obtain⟨MH,vO,akr⟩:=vh.more (G:=iw) vF.gt qw.ne akq (Nw Fj);have vO:=(nI.trans qw.le).trans (s0.trans vO);obtain⟨vW,CS⟩:∃vW,vW=(fun i=>if i=p.lp.m then f5 else M1 i):=⟨_,rfl⟩;rw[←CS]at MH
  have EU:Na o5 o5 (oC p c) vW B1 p.lp.m (p.w+1) (if o5 then none else some (x6 vW B1 p.lp.m p.w)):=by
   cases o5 with
   | true=>rfl
   | false=>
    obtain⟨k1,k2⟩:=kR rfl;obtain⟨T5,k3,k4⟩:=aba k1;refine⟨rfl,rfl,aaJ k3 k4 (fun i hi j hj=>by rw[CS];show (if i=p.lp.m then f5 else M1 i) j=_;rw[if_neg (by omega)]) (fun j hj=> ?_),Np⟩;rw[←k2 j (by omega),CS]
    show (if p.lp.m=p.lp.m then f5 else _) j=_
    rw[if_pos rfl]
  have aks:∀T,(if o5 then none else some (x6 vW B1 p.lp.m p.w))=some T→Acc (ar.Step p.u) T:=fun T hT=>by
   cases o5 with
   | true=>cases hT
   | false=>cases hT;exact EU.2.2.1.acc
  refine ml bm rfl (mm bm ah rfl rfl rfl ?_);obtain⟨ti,ak,al⟩:=Ky;refine BS (g:=g) (o:=0) rfl akr rfl (by show 0+1≤3;omega) ak al rfl rfl rfl rfl ?_;refine ae [3,4,11,12] ?_;refine ag (ab 2 rfl (aF rfl rfl (aax MH (by omega) (by omega) (by omega) (fun T r s=>oC.step) EU aks TK) ?_));rintro _ TP ⟨TQ,TR,o18,JJ,rfl,Gv,TS,akt,NB⟩;have yg:=vO.trans TS;refine ab 1 rfl (ae [4,11,12,30] ?_);refine aq (ag (ab 2 rfl (aV ah rfl rfl rfl (aT ah rfl rfl rfl (Gv.SE) (ae [4,11,12,30,267] ?_)))));refine aD rfl (fun hb=> ?_) (fun hb=> ?_)
  ·
   skip
   refine ag (ab 3 rfl (ae [8,9,10] ?_));refine aE ⟨.inr rfl,_,.tmp rfl (.tmp rfl (.tmp rfl (.nil))),?_⟩;exact⟨0,.slice none 0 0,false,rfl,dV.trans (gq.trans (yg.trans (bt _ _))),fun h9=>by cases h9⟩
  have hb:o18=false:=by simpa using hb
  subst hb;obtain⟨_,T2,CT,rE,yh,JK⟩:=akt rfl;have Pb:ea N (rem TP _) (.agg #[fv,fL]) p:=hp.le (dV.trans (gq.trans yg));refine aA (aj [4,11,12,30] rfl ?_);refine ag (ab 1 rfl (ae [4,8,11,12,30] ?_));refine aq (ag (ab 1 rfl (ae [4,8,11,12,268] ?_)));refine aD rfl (fun hb=> ?_) (fun hb=> ?_)
  ·
   have hb:JJ=true:=by simpa using hb
   have TT:∀j,j<p.u→0≤T2.c j:=fun j hj=>by rw[←rE.ec j (by omega)];exact yh hb j hj
   refine aC rfl (ab 1 rfl (az (aj [4,8,11,12] rfl ?_)));refine ag (ab 2 rfl (yG ah rfl rfl rfl (((BM.le (gq.trans yg)).le (bt _ _)).at) (ab 1 rfl (aF rfl rfl (aaD Gv Pb (by omega) (by omega) NB (by omega) (by omega)) ?_))));rintro TU R6 ⟨JL,JM,abd⟩;refine ab 3 rfl (ae [8,9,10] ?_);refine aE ⟨.inr rfl,_,.tmp rfl (.tmp rfl (.tmp rfl (.nil))),?_⟩;exact⟨1,TU,true,rfl,dV.trans (gq.trans ((yg.trans (bt _ _)).trans JL)),fun _=> .inl ⟨rfl,_,JM,bh _ _,CT.opt bx fo TT rE,fun q hq=>by obtain⟨j,hj,rfl⟩:=Cn hq;exact abd j hj⟩⟩
  have hb:JJ=false:=by simpa using hb
  obtain⟨s2,k1,k2,k3⟩:=JK hb;refine aA (aj [4,8,11,12] rfl ?_);refine ag (ab 2 rfl (yG ah rfl rfl rfl (((BM.le (gq.trans yg)).le (bt _ _)).at) (ab 1 rfl (aF rfl rfl (aaD Gv Pb (by omega) (by omega) NB (by omega) (by omega)) ?_))));rintro TU R6 ⟨JL,JM,abd⟩;refine ab 3 rfl (ae [8,9,10] ?_);refine aE ⟨.inr rfl,_,.tmp rfl (.tmp rfl (.tmp rfl (.nil))),?_⟩;exact⟨3,TU,true,rfl,dV.trans (gq.trans ((yg.trans (bt _ _)).trans JL)),fun _=> .inr ⟨by decide,CT.unb bx fo k1 (by rw[←rE.ec s2 (by omega)];exact k2) fun i hi=>by rw[rE.em]at hi;rw[←rE.eA i hi s2 (by omega)];exact k3 i hi⟩⟩
end Go.aw
namespace Go.aw
open Go.Proofs Num Lp
abbrev NC(C:Heap→List Value→Prop):Prop:=∀K K' xs,Heap.le K K'→C K xs→C K' xs
abbrev lW(W:Nat)(f:Nat→Rat)(k:Nat)(K:Heap)(xs:List Value):Prop:=bE (iq bX K) 3 xs (fill (aL f W) k)
abbrev ly(W:Nat)(f:Nat→Rat)(K:Heap)(xs:List Value):Prop:=bE (bX K) 3 xs (aL f W)
theorem TV{W:Nat}{f:Nat→Rat}{k:Nat}:NC (lW W f k):=fun _ _ _ hl h=>h.mono fun vs a=>iq.up dL _ _ vs a hl
theorem Ae{W:Nat}{f:Nat→Rat}:NC (ly W f):=fun _ _ _ hl h=>h.mono fun vs a=>dL _ _ vs a hl
theorem JN{W k:Nat}{K:Heap}{xs:List Value}{f:Nat→Rat}(h:lW W f k K xs)(hk:k≤W):xs.length=W*3:=by
 have:=h.len
 rwa [nC (by rw[bh];exact hk),bh]at this
theorem yi{W:Nat}{K:Heap}{xs:List Value}{f:Nat→Rat}(h:ly W f K xs):xs.length=W*3:=by
 have:=h.len
 rwa [bh]at this
theorem ND{W k:Nat}{K:Heap}{xs vs:List Value}{f:Nat→Rat}(h:lW W f k K xs)(hk:k<W)(hv:bX K vs (f k)):lW W f (k+1) K (aM xs (k*3) vs):=by
 show bE _ _ _ _
 rw[←ze (dM hk)]
 exact h.set (by rw[nC (by rw[bh];omega),bh];exact hk) (show iq bX _ vs (some (f k))from hv) (iQ.len _ _ _ hv)
theorem NF{W:Nat}{K:Heap}{xs:List Value}{f:Nat→Rat}(h:lW W f W K xs):ly W f K xs:=by
 refine DZ (P:=bX) (H:=K) ?_
 rw[bh];exact h
theorem NG{W:Nat}{K:Heap}{f:Nat→Rat}:lW W f 0 K (cD [.bool false,.slice none 0 0,.slice none 0 0] (W*3)):=by
 have:=BE (P:=bX) (H:=K) (zs:=[.bool false,.slice none 0 0,.slice none 0 0]) (sz:=3) rfl (aL f W)
 rwa [bh]at this
theorem pP{xs vs:List Value}{s e k:Nat}:({(⟨xs,s,e,true⟩:Ent)with xs:=aM xs (0+k*3) vs}:Ent)=⟨aM xs (k*3) vs,s,e,true⟩:=by rw[Nat.zero_add]
structure SZ(C:Heap→List Value→Prop)(K H:Heap)(G:GG)(R W m:Nat)(M:Nat→Nat→Rat)(B:Nat→Nat)(u:Value)(l:List Nat)(z:Nat):Prop where
 q:cA iQ H (G.on (z::(aB u++G.top))) R W m M B
 own:cg H u 3 1 l.length (vR l)
 row:∃xs,H z=some ⟨xs,W*3,31,true⟩∧C (rem H (G.on (z::(aB u++G.top))).gs) xs
 le:Heap.le K (rem H (G.on (z::(aB u++G.top))).gs)
section
variable {C C':Heap→List Value→Prop} {K K' H H':Heap} {G:GG} {R W m z:Nat} {M M':Nat→Nat→Rat} {B:Nat→Nat} {u:Value} {l:List Nat} {f:Nat→Rat} {xs:List Value}
theorem SZ.m7:z∈(G.on (z::(aB u++G.top))).gs:=List.mem_append_left _ (List.mem_cons_self ..)
theorem SZ.xQ{q:Nat}(h:q∈aB u):q∈(G.on (z::(aB u++G.top))).gs:=List.mem_append_left _ (List.mem_cons_of_mem _ (List.mem_append_left _ h))
theorem SZ.S8(h:SZ C K H G R W m M B u l z):∀q,q∈aB u→q≠z:=fun q hq e=>by
 have h1:z∉(aB u++G.top)++G.low:=(List.nodup_cons.1 (show (z::((aB u++G.top)++G.low)).Nodup from h.q.nd)).1
 exact h1 (List.mem_append_left _ (List.mem_append_left _ (e▸hq)))
theorem GU.start(h:GU K H G R W m M B u l)(hz:H z=none)(hC:C (rem H (G.on (aB u++G.top)).gs) xs):SZ C K (ins H z ⟨xs,W*3,31,true⟩) G R W m M B u l z:=by
 obtain⟨h1,h2⟩:=h.q.apart (e:=⟨xs,W*3,31,true⟩) hz
 refine⟨h1,h.own.same fun q hq=>bg _ _ fun e=> ?_,⟨xs,bF _ _ _,?_⟩,?_⟩
 ·exact h.q.ne q (QU.xQ (cM.2 hq)) (by rw[e];exact hz)
 ·show C (rem _ ((G.on (aB u++G.top)).on (z::(G.on (aB u++G.top)).top)).gs) xs
  rw[h2];exact hC
 ·show Heap.le K (rem _ ((G.on (aB u++G.top)).on (z::(G.on (aB u++G.top)).top)).gs)
  rw[h2];exact h.le
theorem SZ.kept(hC:NC C)(h:SZ C K H G R W m M B u l z)(k:Kept (G.on (z::(aB u++G.top))).gs H H'):SZ C K H' G R W m M B u l z:=by
 obtain⟨xs,h3,h4⟩:=h.row
 exact⟨h.q.kept k,h.own.same fun q hq=>k.same q (SZ.xQ (cM.2 hq)),⟨xs,(k.same z SZ.m7).trans h3,hC _ _ _ k.le h4⟩,h.le.trans k.le⟩
theorem SZ.set(h:SZ C K H G R W m M B u l z)(k:Kept (G.on (z::(aB u++G.top))).gs H H')(hC:C' (rem H' (G.on (z::(aB u++G.top))).gs) xs):SZ C' K (ins H' z ⟨xs,W*3,31,true⟩) G R W m M B u l z:=by
 have h1:=h.q.kept k
 have hm:z∈(G.on (z::(aB u++G.top))).gs:=SZ.m7
 have hT:fT (G.on (z::(aB u++G.top))).gs z H' (ins H' z ⟨xs,W*3,31,true⟩):=((Kept.refl _ _).iO z).ins hm _
 refine⟨h1.Cx (List.mem_cons_self ..) hT (by rw[bF];simp),h.own.same fun q hq=> ?_,⟨xs,bF _ _ _,by rw[cK _ hm];exact hC⟩,by rw[cK _ hm];exact h.le.trans k.le⟩
 rw[bg _ _ (h.S8 q (cM.2 hq))];exact k.same q (SZ.xQ (cM.2 hq))
theorem SZ.vX{j:Nat}{vs:List Value}{q:Rat}(h:SZ (ly W f) K H G R W m M B u l z)(k:Kept (G.on (z::(aB u++G.top))).gs H H')(hD:ly W f (rem H (G.on (z::(aB u++G.top))).gs) xs)(hj:j<W)(hv:bX (rem H' (G.on (z::(aB u++G.top))).gs) vs q):SZ (ly W (bY f j q)) K (ins H' z ⟨aM xs (j*3) vs,W*3,31,true⟩) G R W m M B u l z:=
 h.set k (aaL (Ae _ _ _ k.le hD) hj hv)
theorem SZ.fresh(hC:NC C)(h:SZ C K H G R W m M B u l z){k:Nat}{e:Ent}(hk:H k=none):SZ C K (ins H k e) G R W m M B u l z:=by
 obtain⟨_,h2⟩:=h.q.fresh (e:=e) hk
 exact h.kept hC ⟨h2,fun q hq=>bg _ _ fun(e':q=k)=>h.q.ne q hq (by rw[e'];exact hk)⟩
theorem SZ.pJ(h:SZ C K H G R W m M B u l z):SZ C (rem H (G.on (z::(aB u++G.top))).gs) H G R W m M B u l z:=⟨h.q,h.own,h.row,.refl _⟩
theorem SZ.down(h:SZ C K H G R W m M B u l z)(hl:Heap.le K' K):SZ C K' H G R W m M B u l z:=⟨h.q,h.own,h.row,hl.trans h.le⟩
theorem SZ.to(h:SZ C K H G R W m M B u l z)(hC:∀xs,C (rem H (G.on (z::(aB u++G.top))).gs) xs→C' (rem H (G.on (z::(aB u++G.top))).gs) xs):SZ C' K H G R W m M B u l z:=by
 obtain⟨xs,h3,h4⟩:=h.row
 exact⟨h.q,h.own,⟨xs,h3,hC xs h4⟩,h.le⟩
theorem SZ.zne(h:SZ C K H G R W m M B u l z){q:Nat}(hq:q∈G.gs):q≠z:=fun e=>by
 have h1:z∉(aB u++G.top)++G.low:=(List.nodup_cons.1 (show (z::((aB u++G.top)++G.low)).Nodup from h.q.nd)).1
 rw[←e,List.append_assoc]at h1
 exact h1 (List.mem_append_right _ hq)
theorem SZ.more{c lU:Nat}{A':Option Addr}(h:SZ (ly W f) K H G R W m M B u l z)(ha:App H (.slice G.Ar R G.cr) 26 1 (R+1) (jc (G.rg ++ [(z,c)]) W) (.slice A' (R+1) lU) H'):
  GU K H' (G.more G.top z c A' lU R) (R+1) W m (fun i=>if i=R then f else M i) B u l:=by
 obtain⟨xs,h3,h4⟩:=h.row
 obtain⟨h1,h2⟩:=h.q.more (t:=aB u++G.top) ⟨xs,_,h3,h4⟩ ha
 refine⟨h1,h.own.same fun q hq=> ?_,h.le.trans h2⟩
 obtain⟨en,he⟩:=h.own.block hq
 rw[he]
 refine ha.same q en he fun e=> ?_
 have hb:q∈G.hb:=by
  have:=h.q.my
  have e2:G.hb=aB (.slice G.Ar R G.cr):=this
  rw[e2];exact cM.2 e
 exact GG.uo h.q.nd (q:=q) (r:=q) (List.mem_cons_of_mem _ (List.mem_append_left _ (cM.2 hq))) (GG.Cv (G:=G.on (z::(aB u++G.top))) hb) rfl
theorem GU.CP(h:GU K H G R W m M B u l)(hM:∀i,i<R→∀j,j<W→M' i j=M i j):GU K H G R W m M' B u l:=⟨h.q.CP hM,h.own,h.le⟩
theorem cA.gu(h:cA iQ H G R W m M B):GU (rem H G.gs) H G R W m M B (.slice none 0 0) []:=⟨h,lB _ _ _,.refl _⟩
end
def g0:GG:=⟨[],[],[],.slice none 0 0,[],none,0⟩
theorem aku{H:Heap}{W:Nat}{M:Nat→Nat→Rat}{B:Nat→Nat}:GU H H g0 0 W 0 M B (.slice none 0 0) []:=by
 refine⟨⟨List.nodup_nil,fun q hq=>(by cases hq),rfl,rfl,lB _ _ _,fun i p hp=>(by cases hp),.inl ⟨rfl,rfl,rfl⟩⟩,lB _ _ _,?_⟩
 show Heap.le H (rem H [])
 rw[tz];exact .refl _
def GG.fin(G:GG)(u:Value):GG:={G with bb:=aB u,bv:=u}
theorem GU.fin{K H:Heap}{G:GG}{R W m:Nat}{M:Nat→Nat→Rat}{B B':Nat→Nat}{u:Value}(h:GU K H G R W 0 M B' u ((List.range m).map B))(hb:G.bb = []):cA iQ H (G.fin u) R W m M B∧Heap.le K (rem H (G.fin u).gs):=by
 have jT:(G.on (aB u++G.top)).gs=(aB u++G.top)++(G.hb++(G.bb++G.rg.map (·.1))):=rfl
 have Jo:(G.fin u).gs=G.top++(G.hb++(aB u++G.rg.map (·.1))):=rfl
 rw[hb,List.nil_append]at jT
 have sV:((aB u++G.top)++(G.hb++G.rg.map (·.1))).Perm (G.top++(G.hb++(aB u++G.rg.map (·.1)))):=by
  refine(List.Perm.append_right _ List.perm_append_comm).trans ?_
  rw[List.append_assoc]
  refine List.Perm.append_left _ ?_
  rw[←List.append_assoc,←List.append_assoc]
  exact List.Perm.append_right _ List.perm_append_comm
 have er:rem H (G.fin u).gs=rem H (G.on (aB u++G.top)).gs:=aaK fun q=>by rw[jT,Jo];exact(sV.mem_iff).symm
 have dX:=h.q.nd
 rw[jT]at dX
 refine⟨⟨by rw[Jo];exact sV.nodup_iff.1 dX,fun q hq=>h.q.top q (List.mem_append_right _ hq),h.q.iH,h.q.my,h.q.rows,fun i p hp=> ?_,?_⟩,by rw[er];exact h.le⟩
 ·rw[er];exact h.q.row i p hp
 ·have h1:=h.own
  rw[List.length_map,List.length_range]at h1
  rcases h1.2 with ⟨h2,h3⟩ | ⟨g,cap,h2,h3,_⟩
  ·exact .inl ⟨h3,by show aB u = [];rw[h2];rfl,h2⟩
  ·exact .inr ⟨g,cap,_,by show aB u = [g];rw[h2];rfl,h2,by rw[h3,vR,List.map_map];rfl⟩
section
variable {p:Prg}
abbrev _root_.Lp.Prg.xf(p:Prg)(j:Nat):Nat:=aX p.lp.free j-j
abbrev _root_.Lp.Prg.sf(p:Prg)(i:Nat):Nat:=bD p.lp.rel p.c1 i-p.c1
abbrev _root_.Lp.Prg.af(p:Prg)(i:Nat):Nat:=aY p.lp.rel p.aK p.u i-p.u
theorem akv{j:Nat}:p.xf (j+1)=p.xf j+(if p.lp.free j then 1 else 0):=by
 have h1:aX p.lp.free (j+1)=aX p.lp.free j+1+(if p.lp.free j then 1 else 0):=rfl
 have h2:=zS (fr:=p.lp.free) j
 show aX p.lp.free (j+1)-(j+1)=aX p.lp.free j-j+_
 omega
theorem akw(rel:Nat→Int)(c i:Nat):c≤bD rel c i:=by
 induction i with
 | zero=>exact Nat.le_refl _
 | succ i ih=>exact Nat.le_trans ih (Nat.le_add_right _ _)
theorem akx(rel sg:Nat→Int)(u i:Nat):u≤aY rel sg u i:=by
 induction i with
 | zero=>exact Nat.le_refl _
 | succ i ih=>exact Nat.le_trans ih (Nat.le_add_right _ _)
theorem aky{i:Nat}:p.sf (i+1)=p.sf i+(if p.lp.rel i=2 then 0 else 1):=by
 have h1:bD p.lp.rel p.c1 (i+1)=bD p.lp.rel p.c1 i+(if p.lp.rel i=2 then 0 else 1):=rfl
 have h2:=akw p.lp.rel p.c1 i
 show bD p.lp.rel p.c1 (i+1)-p.c1=bD p.lp.rel p.c1 i-p.c1+_
 omega
theorem akz{i:Nat}:p.af (i+1)=p.af i+(if fe (p.lp.rel i) (p.aK i)then 0 else 1):=by
 have h1:aY p.lp.rel p.aK p.u (i+1)=aY p.lp.rel p.aK p.u i+(if fe (p.lp.rel i) (p.aK i)then 0 else 1):=rfl
 have h2:=akx p.lp.rel p.aK p.u i
 show aY p.lp.rel p.aK p.u (i+1)-p.u=aY p.lp.rel p.aK p.u i-p.u+_
 omega
theorem abe{i:Nat}{r:List Rat×Int×Rat}(h:p.rows[i]? = some r):(fE r).2.1=kF (p.lp.rel i) (p.aK i):=by
 have e:=Prg.mc h
 have h1:p.lp.rel i=r.2.1:=by show (p.row i).2.1=_;rw[e]
 have h2:p.lp.b i=r.2.2:=by show (p.row i).2.2=_;rw[e]
 show _=kF (p.lp.rel i) (kO (p.lp.b i) (p.lp.rel i))
 rw[h1,h2]
 unfold fE
 rcases sH r.2.2 r.2.1 with k | k
 ·rw[if_pos k,k];unfold kF;rw[if_pos rfl]
 ·rw[if_neg (by rw[k];decide),k]
theorem akA{i:Nat}{r:List Rat×Int×Rat}(h:p.rows[i]? = some r):(fE r).2.2=p.lp.b i*(p.aK i:Rat):=by
 have e:=Prg.mc h
 have h1:p.lp.rel i=r.2.1:=by show (p.row i).2.1=_;rw[e]
 have h2:p.lp.b i=r.2.2:=by show (p.row i).2.2=_;rw[e]
 show _=_*((kO (p.lp.b i) (p.lp.rel i):Int):Rat)
 rw[h1,h2]
 unfold fE
 rcases sH r.2.2 r.2.1 with k | k
 ·rw[if_pos k,k];exact(Rat.mul_one _).symm
 ·rw[if_neg (by rw[k];decide),k]
  show -r.2.2=r.2.2 * -1
  grind
theorem akB{r:List Rat×Int×Rat}:(fE r).1.length=r.1.length:=by
 unfold fE;split <;> simp
theorem akC{i j:Nat}{r:List Rat×Int×Rat}{q:Rat}(h:p.rows[i]? = some r)(hj:r.1[j]? = some q):(fE r).1[j]? = some (p.lp.a i j*(p.aK i:Rat)):=by
 have e:=Prg.mc h
 have h1:p.lp.rel i=r.2.1:=by show (p.row i).2.1=_;rw[e]
 have h2:p.lp.b i=r.2.2:=by show (p.row i).2.2=_;rw[e]
 have h3:p.lp.a i j=q:=by show fn (p.row i).1 j=_;rw[e];exact mb hj
 show _=some (_*((kO (p.lp.b i) (p.lp.rel i):Int):Rat))
 rw[h1,h2,h3]
 unfold fE
 rcases sH r.2.2 r.2.1 with k | k
 ·rw[if_pos k,k,hj]
  show some q=some (q*1)
  rw[Rat.mul_one]
 ·rw[if_neg (by rw[k];decide),k]
  show (r.1.map (fun q=> -q))[j]? = some (q * -1)
  rw[List.getElem?_map,hj]
  show some (-q)=some (q * -1)
  rw[show -q=q * -1 from by grind]
end
end Go.aw
