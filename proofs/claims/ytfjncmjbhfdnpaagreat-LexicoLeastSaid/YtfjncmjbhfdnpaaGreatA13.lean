/- Part 13 of the proof: Sl, Val2, Chk1, Dual, Rdual, So, Qq, SDat3. -/
import Derived.Test.YtfjncmjbhfdnpaaGreatA12
set_option linter.unusedVariables false
namespace Go.au
open Go.Proofs Num Lp
theorem aaO{q:Rat}:gZ q<0↔q<0:=by
 unfold gZ;split
 ·simp[*]
 ·split <;> simp_all
theorem aaP{q:Rat}:gZ q≤0↔q≤0:=by
 unfold gZ;split
 ·exact⟨fun _=>by grind,fun _=>by decide⟩
 ·split
  ·exact⟨fun _=>by grind,fun _=>by decide⟩
  ·exact⟨fun h=>absurd h (by decide),fun h=>by grind⟩
theorem ajX{p q:Rat}:wC p q<0↔p<q:=by
 unfold wC;split
 ·simp[*]
 ·split <;> simp_all
theorem ajY{p q:Rat}:wC p q=0↔p=q:=by
 unfold wC;split
 ·exact⟨fun h=>absurd h (by decide),fun h=>by grind⟩
 ·split
  ·simp[*]
  ·exact⟨fun h=>absurd h (by decide),fun h=>by grind⟩
structure Ji where
 i:Nat
 z:Int
 t:RC
def Jj(M:Nat→Nat→Rat)(B:Nat→Nat)(n c:Nat)(K:Heap)(y:Ji):Prop:=(y.z = -1∧∀i,i<y.i→M i c≤0)∨∃(r:Nat)(q:Rat),y.z=(r:Int)∧r<y.i∧0<M r c∧bJ K y.t.v q∧mT M B n c y.i r q
theorem ajZ{M:Nat→Nat→Rat}{B:Nat→Nat}{n c:Nat}{K K':Heap}{y:Ji}(h:Jj M B n c K y)(hl:Heap.le K K')(hk:M y.i c≤0):Jj M B n c K' ⟨y.i+1,y.z,y.t⟩:=by
 rcases h with ⟨h1,h2⟩ | ⟨r,q,h1,h2,h3,h4,h5⟩
 ·refine .inl ⟨h1,fun i hi=> ?_⟩
  by_cases e:i=y.i
  ·rw[e];exact hk
  ·exact h2 i (by have:i<y.i+1:=hi;omega)
 ·exact .inr ⟨r,q,h1,Nat.lt_succ_of_lt h2,h3,h4.le hl,aas h5 hk⟩
def SvP(M:Nat→Nat→Rat)(B:Nat→Nat)(n c m:Nat)(z:Int):Prop:=(z = -1∧∀i,i<m→M i c≤0)∨∃r:Nat,z=(r:Int)∧r<m∧0<M r c∧∃q,mT M B n c m r q
def EnP(M:Nat→Nat→Rat)(R u:Nat)(z:Int):Prop:=(z = -1∧∀j,j<u→0≤M R j)∨∃s:Nat,z=(s:Int)∧s<u∧M R s<0∧∀j,j<s→0≤M R j
theorem aj0{H:Heap}{G:GG}{R W m N u:Nat}{M:Nat→Nat→Rat}{B:Nat→Nat}(h:ct iF H G (R+1) W m M B)(hu:u≤W)(hz:∀j,j<u→aO (M R j)≤N)(hN:(N:Int)≤200000000000)(hR:(R:Int)≤1000000)(hW:(W:Int)≤1000000):
 Fn Tryz.prog 142 #[.agg #[.slice G.Ar (R+1) G.cr,G.bv],.int .i64 (u:Int)] H (fun v H'=>∃z,v = .int .i64 z∧Kept G.gs H H'∧EnP M R u z):=by
 obtain⟨pr,cU⟩:=h.get (Nat.lt_succ_self R)
 obtain⟨Ab,cb,dh,fV⟩:=h.sQ
 rw[dh]
 obtain⟨xr0,sr0,tl,IT⟩:=h.q6 cU;refine a7 (args:=[_,_]) Tryz.func142 rfl rfl Tryz.ntmps142 rfl rfl fun w0=> ?_;refine aj [0,1] rfl ?_;refine ag (bX rfl rfl (ab 1 rfl (ae [1,2] ?_)));refine ag (ab 5 rfl (cV rfl rfl ⟨by omega,by omega⟩ (aQ ah rfl rfl rfl rfl rfl (h.hd) (by rw[show (((R+1:Nat):Int)-1).toNat=R by omega];exact kA (rg:=G.rg) (W:=_) cU) (by omega) (by omega) fun _=> ?_)));refine ab 1 rfl (ae [1,5] ?_);refine ao (ag (ab 1 rfl (ae [1,5,6] ?_)));refine aF (gG (fun(k:Nat)=>u-k) (fun(k:Nat)=>put (put (put (emp) 1 (.val (.int .i64 (u:Int)))) 5 (.val (.slice (some ⟨pr.1,0,none⟩) W pr.2))) 6 (.val (.int .i64 (k:Int)))) (fun(k:Nat) H'=>Kept G.gs H H'∧k≤u∧∀j,j<k→0≤M R j) 0 (⟨.refl _ _,Nat.zero_le _,fun j hj=>absurd hj (Nat.not_lt_zero _)⟩) ar ?_);rintro k H1 ⟨gE,Ly,gW⟩;have Qb:=(gE.same _ (GG.kM (GG.gJ cU))).trans tl;have h1:=h.kept gE;refine ao (ag (ab 3 rfl (ae [1,5,6,17] ?_)));refine aC rfl (fun hb=> ?_) (fun hb=> ?_)
 ·
  have aaQ:k<u:=by simpa using hb
  obtain⟨t1,zQ,iq⟩:=mm IT (show k<W by omega);have oP:=hz k aaQ;refine aA (aj [1,5,6] rfl ?_);refine ao (aF (ag (ab 2 rfl (ck (vs:=[.bool t1.f,.slice t1.A1 t1.m1 t1.c1,.slice t1.A2 t1.m2 t1.c2]) ah rfl rfl rfl rfl (dS Qb) rfl (by decide) (by rw[Int.toNat_natCast];exact iq) (by omega) (by omega) fun _=> ?_))));refine aE rfl rfl (Fn.l0 h1.ne (xB (bJ.raw (zQ.le gE.le)) (by omega))) ?_;rintro v2 H2 ⟨fN,dG,rfl⟩;refine ab 1 rfl (ae [1,5,6,25] ?_);refine aC rfl (fun hb=> ?_) (fun hb=> ?_)
  ·
   have hb:M R k<0:=aaO.1 (by simpa using hb);refine ag (ab 2 rfl (ae [4] ?_));refine aD ⟨.inr rfl,_,.tmp rfl (.nil),?_⟩;exact⟨_,rfl,gE.trans fN,.inr ⟨k,rfl,aaQ,hb,gW⟩⟩
  ·
   have hb:¬M R k<0:=fun h9=>by have:=aaO.2 h9;simp at hb;omega
   refine aA (aj [1,5,6] rfl ?_);refine aB rfl (ab 1 rfl (aG rfl rfl ⟨by omega,by omega⟩ (ab 1 rfl (aw ?_))))
   exact⟨k+1,by omega,ar,gE.trans fN,by omega,fun j hj=>by
    by_cases ej:j=k
    ·subst ej;grind
    ·exact gW j (by omega)⟩
 ·
  have hb:u≤k:=by simpa using hb
  obtain rfl:k=u:=by omega
  refine aV (aj [] rfl ?_);refine ag (ab 1 rfl (ae [4] ?_));refine aD ⟨.inr rfl,_,.tmp rfl (.nil),?_⟩;exact⟨_,rfl,gE,.inl ⟨rfl,gW⟩⟩
theorem aj1{H:Heap}{G:GG}{R W m N:Nat}{M:Nat→Nat→Rat}{B:Nat→Nat}{c:Nat}(h:ct iF H G R W m M B)(S0:m≤R)(hc:c<W)(hz:∀i,i<m→∀j,j<W→aO (M i j)≤N)(hN:(N:Int)≤200000000000)(hR:(R:Int)≤1000000)(hW:(W:Int)≤1000000):
 Fn Tryz.prog 143 #[.agg #[.slice G.Ar (R) G.cr,G.bv],.int .i64 (c:Int)] H (fun v H'=>∃z,v = .int .i64 z∧Kept G.gs H H'∧SvP M B (W-1) c m z):=by
 obtain⟨Ab,cb,dh,fV⟩:=h.sQ
 have mu:∀{H':Heap},Kept G.gs H H'→∀i,i<m→Rd H' Ab (eL B m):=fun k i hi=>fV (t:=G.top) (h.kept k) i hi
 rw[dh];refine a7 (args:=[_,_]) Tryz.func143 rfl rfl Tryz.ntmps143 rfl rfl fun w0=> ?_;refine aj [0,1] rfl ?_;refine ag (bX rfl rfl (ab 1 rfl (ae [1,2] ?_)));refine ag (dy ah rfl bY rfl rfl (bt bY rfl (vr 1 ?_)));obtain⟨ti,ak,al⟩:=aY;refine aH (.inl ⟨rfl,rfl⟩) rfl rfl rfl ak al rfl rfl rfl (ae [1,2,5,6] ?_);refine ao (ag (ab 4 rfl (ae [1,2,5,6,14,15] ?_)));refine aF (gG (fun(y:Ji)=>m-y.i) (fun(y:Ji)=>put (put (put (put (put (put (emp) 1 (.val (.int .i64 (c:Int)))) 2 (.box [.slice G.Ar R G.cr,.slice Ab m cb])) 5 (.val (.int .i64 y.z))) 6 (.box [.bool y.t.f,.slice y.t.A1 y.t.m1 y.t.c1,.slice y.t.A2 y.t.m2 y.t.c2])) 14 (.val (.int .i64 (m:Int)))) 15 (.val (.int .i64 (y.i:Int)))) (fun(y:Ji) H'=>Kept G.gs H H'∧y.i≤m∧Jj M B (W-1) c (rem H' G.gs) y) ⟨0,-1,⟨false,none,0,0,none,0,0⟩⟩ (⟨.refl _ _,Nat.zero_le _,.inl ⟨rfl,fun i hi=>absurd hi (Nat.not_lt_zero _)⟩⟩) ar ?_);rintro y H2 ⟨fN,hym,hI⟩;have h2:=h.kept fN;refine ag (ab 1 rfl (ae [1,2,5,6,14,15,16] ?_));refine ao (aC rfl (fun hb=> ?_) (fun hb=> ?_))
 ·
  have aT:y.i<m:=by simpa using hb
  obtain⟨pi,cS⟩:=h2.get (show y.i<R by omega);obtain⟨xi,si,sI,xP⟩:=h2.q6 cS;obtain⟨t1,zQ,iq⟩:=mm xP hc;obtain⟨t2,fe,nu⟩:=mm xP (show W-1<W by omega);have oP:=hz y.i aT c hc;have oK:=hz y.i aT (W-1) (by omega);refine aA (aj [1,2,5,6,14,15] rfl ?_);refine ao (aF (ag (ab 2 rfl (ae [1,2,5,6,7,14,15] ?_))));refine ao (ag (ab 3 rfl (aQ ah rfl rfl rfl rfl rfl (h2.hd) (by rw[Int.toNat_natCast];exact kA (rg:=G.rg) (W:=_) cS) (by omega) (by omega) fun _=> ?_)));refine ab 1 rfl (ck (vs:=[.bool t1.f,.slice t1.A1 t1.m1 t1.c1,.slice t1.A2 t1.m2 t1.c2]) ah rfl rfl rfl rfl (dS sI) rfl (by decide) (by rw[Int.toNat_natCast];exact iq) (by omega) (by omega) fun _=> ?_);refine aE rfl rfl (Fn.l0 h2.ne (xB (bJ.raw zQ) (by omega))) ?_;rintro v3 H3 ⟨dt,gO,rfl⟩;have h3:=h2.kept dt;have IE:=fN.trans dt;have aaR:=(dt.same _ (GG.kM (GG.gJ cS))).trans sI;refine ab 1 rfl (ae [1,2,5,6,7,14,15,27] ?_);refine aC rfl (fun hb=> ?_) (fun hb=> ?_)
  ·
   have hb:M y.i c≤0:=aaP.1 (by simpa using hb);refine aV (aj [1,2,5,6,14,15] rfl ?_);refine aB rfl (aG rfl rfl ⟨by omega,by omega⟩ (ab 1 rfl (aw ?_)));exact⟨⟨y.i+1,y.z,y.t⟩,(show m-(y.i+1)<m-y.i by omega),ar,IE,(show y.i+1≤m by omega),ajZ hI dt.le hb⟩
  ·
   have fF:0<M y.i c:=by
    have h9:¬M y.i c≤0:=fun h9=>by have:=aaP.2 h9;simp at hb;omega
    grind
   refine aA (aj [1,2,5,6,7,14,15] rfl ?_);refine bO .bL [0,1,2,3,4,5,6,7,8,9,10,11,12,13,14,15,16,17,18,19,20,21,22,23,24,25,26,27,28] follows (iz [0,1,0,7,15,0,32,0,224,480,992,2016,4095,8191,0,16384,0,114688,245760,0,1032192,2080768,4194303,8388607,16777215,16777215,0,100663295,268435455] (by kernel_rfl)) ?_;refine ab 3 rfl (aQ ah rfl rfl rfl rfl rfl (h3.hd) (by rw[Int.toNat_natCast];exact kA (rg:=G.rg) (W:=_) cS) (by omega) (by omega) fun _=> ?_);refine ab 3 rfl (aQ ah rfl rfl rfl rfl rfl (h3.hd) (by rw[Int.toNat_natCast];exact kA (rg:=G.rg) (W:=_) cS) (by omega) (by omega) fun _=> ?_);refine ab 1 rfl (cV rfl rfl ⟨by omega,by omega⟩ (ck (vs:=[.bool t2.f,.slice t2.A1 t2.m1 t2.c1,.slice t2.A2 t2.m2 t2.c2]) ah rfl rfl rfl rfl (dS aaR) rfl (by decide) (by rw[show ((W:Int)-1).toNat=W-1 by omega];exact nu) (by omega) (by omega) fun _=> ?_));refine ab 3 rfl (aQ ah rfl rfl rfl rfl rfl (h3.hd) (by rw[Int.toNat_natCast];exact kA (rg:=G.rg) (W:=_) cS) (by omega) (by omega) fun _=> ?_);refine ab 1 rfl (ck (vs:=[.bool t1.f,.slice t1.A1 t1.m1 t1.c1,.slice t1.A2 t1.m2 t1.c2]) ah rfl rfl rfl rfl (dS aaR) rfl (by decide) (by rw[Int.toNat_natCast];exact iq) (by omega) (by omega) fun _=> ?_)
   refine bm rfl rfl (Fn.frame h3.ne (QR (N:=N) ((bJ.raw (fe.le dt.le)).mono (by omega)) ((bJ.raw (zQ.le dt.le)).mono (by omega)) (by omega))) (fun _ _ h=>h.le fun _ _ h=>h.1) ?_;rintro _ H8 ui;have qV:Kept G.gs H3 H8:= .of ui fun v K hp=>hp.1;obtain⟨_,w8,rfl,fo⟩:=ui.post;obtain⟨t8,rfl⟩:=fo.rc;have aaS:=IE.trans qV;have h8:=h.kept aaS;have R6:=DX (M y.i (W-1)) (M y.i c)
   replace hI:Jj M B (W-1) c (rem H8 G.gs) y:=by
    rcases hI with h9 | ⟨r,q,h9,h5,h6,h7,h8⟩
    ·exact .inl h9
    ·exact .inr ⟨r,q,h9,h5,h6,(h7.le dt.le).le qV.le,h8⟩
   refine ab 3 rfl (bt bY rfl ?_);obtain⟨ti,ak,al⟩:=aY;refine aH (.inl ⟨rfl,rfl⟩) rfl rfl rfl ak al rfl rfl rfl (ab 1 rfl (ae [1,2,5,6,7,8,14,15] ?_));refine ag (ab 1 rfl (ae [1,2,5,6,7,8,10,14,15] ?_));refine kE (fun(s:Int)=>put (put (put (put (put (put (put (put (put (emp) 1 (.val (.int .i64 (c:Int)))) 2 (.box [.slice G.Ar R G.cr,.slice Ab m cb])) 5 (.val (.int .i64 y.z))) 6 (.box [.bool y.t.f,.slice y.t.A1 y.t.m1 y.t.c1,.slice y.t.A2 y.t.m2 y.t.c2])) 7 (.val (.int .i64 (y.i:Int)))) 8 (.box [.bool t8.f,.slice t8.A1 t8.m1 t8.c1,.slice t8.A2 t8.m2 t8.c2])) 10 (.val (.int .i64 s))) 14 (.val (.int .i64 (m:Int)))) 15 (.val (.int .i64 (y.i:Int)))) (fun(s:Int) H'=>Kept G.gs H8 H'∧((y.z = -1∧s = -1∧∀i,i<y.i→M i c≤0)∨∃(r:Nat)(q:Rat),y.z=(r:Int)∧r<y.i∧0<M r c∧bJ (rem H8 G.gs) y.t.v q∧mT M B (W-1) c y.i r q∧(s<0↔M y.i (W-1)/M y.i c<q)∧(s=0↔M y.i (W-1)/M y.i c=q))) ?_ ?_
   ·
    refine ag (ab 2 rfl (ae [1,2,5,6,7,8,10,14,15,55] ?_));refine aC rfl (fun hb=> ?_) (fun hb=> ?_)
    ·
     have hb:0≤y.z:=by simpa using hb
     obtain⟨r,q,ez,xQ,cU,nD,hL⟩:∃(r:Nat)(q:Rat),y.z=(r:Int)∧r<y.i∧0<M r c∧bJ (rem H8 G.gs) y.t.v q∧mT M B (W-1) c y.i r q:=by
      rcases hI with ⟨ez,_⟩ | h9
      ·omega
      ·exact h9
     have hzq:aO q≤2*N:=by
      rw[hL.1];have:=DX (M r (W-1)) (M r c);have:=hz r (by omega) c hc;have:=hz r (by omega) (W-1) (by omega)
      omega
     refine aB rfl (ab 2 rfl (aE rfl rfl (Fn.l0 h8.ne (Yk (N:=2*N) ((bJ.raw fo).mono (by omega)) ((bJ.raw nD).mono (by omega)) (by omega))) ?_));rintro v9 H9 ⟨gQ,ix,rfl⟩;refine ab 1 rfl (aw ?_);exact⟨_,ar,gQ,.inr ⟨r,q,ez,xQ,cU,nD,hL,ajX,ajY⟩⟩
    have hb:y.z<0:=by simpa using hb
    refine aA ?_
    skip
    rcases hI with ⟨ez,gW⟩ | ⟨r,q,ez,_⟩
    ·exact⟨_,ar,.refl _ _,.inl ⟨ez,rfl,gW⟩⟩
    ·omega
   rintro s H9 ⟨E2,hs⟩;have gQ:=aaS.trans E2;have h9:=h.kept gQ;obtain⟨ez,es,gW⟩ | ⟨r,q,ez,xQ,cU,nD,hL,fH,Cx⟩:=hs
   ·
    skip
    refine bO .bL [0,1,2,3,4,5,6,7,8,9,10,11,12,13,14,15,16,17,18] follows (iz [0,1,3,7,15,31,63,127,63,511,1023,63,2111,63,14399,30783,65535,131071,262143] (by kernel_rfl)) ?_;refine ab 1 rfl (aI true rfl rfl (jK (by omega)) (ab 17 rfl (ae [1,2,5,6,7,8,14,15,77] ?_)));refine dN rfl (eu .bL [0,1,2,3] follows (by kernel_rfl) ?_);refine vr 3 ?_;obtain⟨ti,ak,al⟩:=aY;refine aH (.inl ⟨rfl,rfl⟩) rfl rfl rfl ak al rfl rfl rfl (aw (aj [1,2,5,6,14,15] rfl ?_));refine aB rfl (aG rfl rfl ⟨by omega,by omega⟩ (ab 1 rfl (aw ?_)));exact⟨⟨y.i+1,y.i,t8⟩,(show m-(y.i+1)<m-y.i by omega),ar,gQ,(show y.i+1≤m by omega),.inr ⟨y.i,_,rfl,Nat.lt_succ_self _,fF,fo.le E2.le,aat gW rfl⟩⟩
   skip
   by_cases g1:s<0
   ·
    skip
    refine bO .bL [0,1,2,3,4,5,6,7,8,9,10,11,12,13,14,15,16,17,18] follows (iz [0,1,3,7,15,31,63,127,63,511,1023,63,2111,63,14399,30783,65535,131071,262143] (by kernel_rfl)) ?_;refine ab 1 rfl (aI true rfl rfl (jK g1) (ab 17 rfl (ae [1,2,5,6,7,8,14,15,77] ?_)));refine dN rfl (eu .bL [0,1,2,3] follows (by kernel_rfl) ?_);refine vr 3 ?_;obtain⟨ti,ak,al⟩:=aY;refine aH (.inl ⟨rfl,rfl⟩) rfl rfl rfl ak al rfl rfl rfl (aw (aj [1,2,5,6,14,15] rfl ?_));refine aB rfl (aG rfl rfl ⟨by omega,by omega⟩ (ab 1 rfl (aw ?_)));exact⟨⟨y.i+1,y.i,t8⟩,(show m-(y.i+1)<m-y.i by omega),ar,gQ,(show y.i+1≤m by omega),.inr ⟨y.i,_,rfl,Nat.lt_succ_self _,fF,fo.le E2.le,M0 hL rfl (.inl (fH.1 g1))⟩⟩
   skip
   by_cases g2:s=0
   ·
    skip
    by_cases g3:B y.i<B r
    ·
     skip
     refine bO .bL [0,1,2,3,4,5,6,7,8,9,10,11,12,13,14,15,16,17,18] follows (iz [0,1,3,7,15,31,63,127,63,511,1023,63,2111,63,14399,30783,65535,131071,262143] (by kernel_rfl)) ?_;refine ab 1 rfl (aI false rfl rfl (ik (by omega)) (ab 2 rfl (aI true rfl rfl (jY g2) (ab 4 rfl (aQ ah rfl rfl rfl rfl rfl (mu gQ y.i aT) (by rw[Int.toNat_natCast];exact gI aT) (by omega) (by omega) fun _=> ?_)))));refine ab 3 rfl (aQ ah rfl rfl rfl rfl rfl (mu gQ y.i aT) (by rw[ez,Int.toNat_natCast];exact gI (by omega)) (by omega) (by omega) fun _=> ?_);refine aI true rfl rfl (jK (by omega)) (ab 2 rfl (ae [1,2,5,6,7,8,14,15,77] ?_));refine dN rfl (eu .bL [0,1,2,3] follows (by kernel_rfl) ?_);refine vr 3 ?_;obtain⟨ti,ak,al⟩:=aY;refine aH (.inl ⟨rfl,rfl⟩) rfl rfl rfl ak al rfl rfl rfl (aw (aj [1,2,5,6,14,15] rfl ?_));refine aB rfl (aG rfl rfl ⟨by omega,by omega⟩ (ab 1 rfl (aw ?_)));exact⟨⟨y.i+1,y.i,t8⟩,(show m-(y.i+1)<m-y.i by omega),ar,gQ,(show y.i+1≤m by omega),.inr ⟨y.i,_,rfl,Nat.lt_succ_self _,fF,fo.le E2.le,M0 hL rfl (.inr ⟨Cx.1 g2,g3⟩)⟩⟩
    skip
    refine bO .bL [0,1,2,3,4,5,6,7,8,9,10,11,12,13,14,15,16,17,18] follows (iz [0,1,3,7,15,31,63,127,63,511,1023,63,2111,63,14399,30783,65535,131071,262143] (by kernel_rfl)) ?_;refine ab 1 rfl (aI false rfl rfl (ik (by omega)) (ab 2 rfl (aI true rfl rfl (jY g2) (ab 4 rfl (aQ ah rfl rfl rfl rfl rfl (mu gQ y.i aT) (by rw[Int.toNat_natCast];exact gI aT) (by omega) (by omega) fun _=> ?_)))));refine ab 3 rfl (aQ ah rfl rfl rfl rfl rfl (mu gQ y.i aT) (by rw[ez,Int.toNat_natCast];exact gI (by omega)) (by omega) (by omega) fun _=> ?_);refine aI false rfl rfl (ik (by omega)) (ab 2 rfl (ae [1,2,5,6,7,8,14,15,77] ?_));refine dU rfl (aA (aj [1,2,5,6,14,15] rfl ?_));refine aB rfl (aG rfl rfl ⟨by omega,by omega⟩ (ab 1 rfl (aw ?_)));exact⟨⟨y.i+1,y.z,y.t⟩,(show m-(y.i+1)<m-y.i by omega),ar,gQ,(show y.i+1≤m by omega),.inr ⟨r,q,ez,Nat.lt_succ_of_lt xQ,cU,nD.le E2.le,MZ hL rfl (.inr ⟨Cx.1 g2,g3⟩)⟩⟩
   skip
   refine bO .bL [0,1,2,3,4,5,6,7,8,9,10,11,12,13,14,15,16,17,18] follows (iz [0,1,3,7,15,31,63,127,63,511,1023,63,2111,63,14399,30783,65535,131071,262143] (by kernel_rfl)) ?_;refine ab 1 rfl (aI false rfl rfl (ik (by omega)) (ab 2 rfl (aI false rfl rfl (ln g2) (ab 14 rfl (ae [1,2,5,6,7,8,14,15,77] ?_)))));refine dU rfl (aA (aj [1,2,5,6,14,15] rfl ?_));refine aB rfl (aG rfl rfl ⟨by omega,by omega⟩ (ab 1 rfl (aw ?_)));exact⟨⟨y.i+1,y.z,y.t⟩,(show m-(y.i+1)<m-y.i by omega),ar,gQ,(show y.i+1≤m by omega),.inr ⟨r,q,ez,Nat.lt_succ_of_lt xQ,cU,nD.le E2.le,MZ hL rfl (.inl (by have k1:¬M y.i (W-1)/M y.i c<q:=fun k=>g1 (fH.2 k);have k2:¬M y.i (W-1)/M y.i c=q:=fun k=>g2 (Cx.2 k);grind))⟩⟩
 ·
  have aT:m≤y.i:=by simpa using hb
  have aT:y.i=m:=by omega
  refine aV (aj [5] rfl ?_);refine ag (ab 2 rfl (ae [4] ?_));refine aD ⟨.inr rfl,_,.tmp rfl (.nil),?_⟩;refine⟨y.z,rfl,fN,?_⟩;have h2:=hI
  unfold Jj at h2
  rw[aT]at h2
  rcases h2 with h9 | ⟨r,q,k1,k2,k3,_,k5⟩
  ·exact .inl h9
  ·exact .inr ⟨r,k1,k2,k3,q,k5⟩
theorem aaT{H:Heap}{G:GG}{W m u N:Nat}{M:Nat→Nat→Rat}{B:Nat→Nat}{Φ:aq→Prop}{x:aq}(h:ct iF H G (m+1) W m M B)(hu:u<W)(hm:(m:Int)≤900000)(hW:(W:Int)≤1000000)(dO:∀T r s,Φ T→T.o0 u r s→Φ (T.pivot r s))(hx:Φ x)(hr:gT M B x m W)(FB:Acc (aq.Step u) x)(hB:∀i,i<m→B i<W)(hz:∀T,Φ T→∀j,j<W→aO (T.c j)≤N∧∀i,i<m→aO (T.A i j)≤N)(hN:(N:Int)≤200000000000):
 Fn Tryz.prog 66 #[.agg #[.slice G.Ar (m+1) G.cr,G.bv],.int .i64 (u:Int)] H (fun v H'=>∃M' B' b T,v = .bool b∧ct iF H' G (m+1) W m M' B'∧Heap.le (rem H G.gs) (rem H' G.gs)∧Φ T∧gT M' B' T m W∧(∀i,i<m→B' i<W)∧(b=true→∀j,j<u→0≤M' m j)∧(b=false→∃s,s<u∧M' m s<0∧∀i,i<m→M' i s≤0)):=by
 have xW:∀{M1:Nat→Nat→Rat}{B1:Nat→Nat}{T:aq},Φ T→gT M1 B1 T m W→∀i,i<m+1→∀j,j<W→aO (M1 i j)≤N:=fun{M1 B1 T} hT hr i hi j hj=>by
  by_cases e:i=m
  ·rw[e,hr.ec j hj];exact(hz T hT j hj).1
  ·rw[hr.eA i (by omega) j hj];exact(hz T hT j hj).2 i (by omega)
 refine a7 (args:=[_,_]) Tryz.func66 rfl rfl Tryz.ntmps66 rfl rfl fun w0=> ?_;refine aj [0,1] rfl ?_;refine ag (bX rfl rfl (ab 1 rfl (ae [1,2] ?_)));refine aF (J8 (γ:=aq) (aq.Step u) (fun(y:aq)=>put (put (emp) 1 (.val (.int .i64 (u:Int)))) 2 (.box [.slice G.Ar (m+1) G.cr,G.bv])) (fun(y:aq) H'=>∃M1 B1,ct iF H' G (m+1) W m M1 B1∧Heap.le (rem H G.gs) (rem H' G.gs)∧Φ y∧gT M1 B1 y m W∧∀i,i<m→B1 i<W) (x) (FB) ar (⟨M,B,h,.refl _,hx,hr,hB⟩) ?_);rintro y H1 ⟨M1,B1,h1,fh,s9,iU,zJ⟩;have oP:=xW s9 iU;refine aF (ag (ab 2 rfl (aE rfl rfl (aj0 h1 (by omega) (fun j hj=>oP m (by omega) j (by omega)) hN (by omega) hW) ?_)));rintro _ H2 ⟨z,rfl,fN,hE⟩;have h2:=h1.kept fN;refine ab 1 rfl (ae [1,2,5] ?_);refine ao (ag (ab 2 rfl (ae [1,2,5,11] ?_)));refine aC rfl (fun hb=> ?_) (fun hb=> ?_)
 ·
  have hb:z<0:=by simpa using hb
  obtain⟨_,gW⟩:z = -1∧∀j,j<u→0≤M1 m j:=by
   rcases hE with h9 | ⟨s,h9,_⟩
   ·exact h9
   ·omega
  refine ag (ab 1 rfl (ae [4] ?_));refine aD ⟨.inr rfl,_,.tmp rfl (.nil),?_⟩;exact⟨M1,B1,true,y,rfl,h2,fh.trans fN.le,s9,iU,zJ,fun _=>gW,(fun h9=>by cases h9)⟩
 ·
  have hb:¬z<0:=by simpa using hb
  obtain⟨s,rfl,I5,mH,S2⟩:∃s:Nat,z=(s:Int)∧s<u∧M1 m s<0∧∀j,j<s→0≤M1 m j:=by
   rcases hE with ⟨h9,_⟩ | h9
   ·omega
   ·exact h9
  refine aA (aj [1,2,5] rfl ?_);refine ag (ab 2 rfl (aE rfl rfl (aj1 h2 (by omega) (show s<W by omega) (fun i hi j hj=>oP i (by omega) j hj) hN (by omega) hW) ?_));rintro _ H3 ⟨z3,rfl,dt,I6⟩;have h3:=h2.kept dt;refine ab 1 rfl (ae [1,2,5,6] ?_);refine ao (ag (ab 2 rfl (ae [1,2,5,6,16] ?_)));refine aC rfl (fun hb=> ?_) (fun hb=> ?_)
  ·
   have hb:z3<0:=by simpa using hb
   have gW:∀i,i<m→M1 i s≤0:=by
    rcases I6 with h9 | ⟨r,h9,_⟩
    ·exact h9.2
    ·omega
   refine ag (ab 1 rfl (ae [4] ?_));refine aD ⟨.inr rfl,_,.tmp rfl (.nil),?_⟩;exact⟨M1,B1,false,y,rfl,h3,(fh.trans fN.le).trans dt.le,s9,iU,zJ,(fun h9=>by cases h9),fun _=>⟨s,I5,mH,gW⟩⟩
  have hb:¬z3<0:=by simpa using hb
  obtain⟨r,rfl,j8,cU,q,hL⟩:∃r:Nat,z3=(r:Int)∧r<m∧0<M1 r s∧∃q,mT M1 B1 (W-1) s m r q:=by
   rcases I6 with ⟨h9,_⟩ | h9
   ·omega
   ·exact h9
  have kG:=iU.Gw (by omega) I5 mH S2 j8 cU hL;have rY:=xW (dO _ _ _ s9 kG) (iU.pivot (M':=mj M1 r s) j8 (by omega) fun _ _ _ _=>rfl);refine aA (aj [1,2,5,6] rfl ?_);refine aB rfl (ab 3 rfl (aE rfl rfl (aaL h3 j8 (by omega) (show s<W by omega) (by grind) oP rY hN (by omega) hW) ?_));rintro v4 H4 ⟨M4,h4,hM4,kH⟩;refine aw ?_
  exact⟨y.pivot r s,⟨r,s,kG,rfl⟩,ar,M4,_,h4,((fh.trans fN.le).trans dt.le).trans kH,dO _ _ _ s9 kG,iU.pivot j8 (by omega) hM4,fun i hi=>by
   show (if i=r then s else B1 i)<W
   split
   ·omega
   ·exact zJ i hi⟩
end Go.au
namespace Go.au
open Go.Proofs Num Lp
theorem aj2{H:Heap}{v:Value}{p:Prg}{N:Nat}(hp:eH N H v p):
 Fn Tryz.prog 46 #[v] H (fun v H'=>H'=H∧∃b,v = .bool b∧(b=true↔p.Ok)):=by
 obtain⟨fv,gB,rfl,eI,fk⟩:=hp
 obtain⟨Af,cf,xf,rfl,jk,jl⟩:=eI.one
 obtain⟨Ar,cr,xr,rfl,fy,iE⟩:=fk.row;refine a7 (args:=[_]) Tryz.func46 rfl rfl Tryz.ntmps46 rfl rfl fun w0=> ?_;refine aj [0] rfl ?_;refine ag (bX rfl rfl (ab 1 rfl (ae [1] ?_)));refine ao ?_
 by_cases h1:400<(p.free.length:Int)
 ·
  skip
  refine ag (ab 3 rfl (aI true rfl rfl (nn h1) (ab 6 rfl (ae [1,14] ?_))));refine dN rfl (ag (ab 1 rfl (ae [2] ?_)));refine aD ⟨.inr rfl,_,.tmp rfl (.nil),?_⟩;exact⟨rfl,false,rfl,⟨(fun h=>by cases h),(fun h=>by have h8:=h.iu;have h9:=h.rows;omega)⟩⟩
 ·
  skip
  by_cases h2:800<(p.rows.length:Int)
  ·
   skip
   refine ag (ab 3 rfl (aI false rfl rfl (jw (by omega)) (ab 4 rfl (aI true rfl rfl (nn h2) (ab 1 rfl (ae [1,14] ?_))))));refine dN rfl (ag (ab 1 rfl (ae [2] ?_)));refine aD ⟨.inr rfl,_,.tmp rfl (.nil),?_⟩;exact⟨rfl,false,rfl,⟨(fun h=>by cases h),(fun h=>by have h8:=h.iu;have h9:=h.rows;omega)⟩⟩
  skip
  refine ag (ab 3 rfl (aI false rfl rfl (jw (by omega)) (ab 4 rfl (aI false rfl rfl (jw (by omega)) (ab 1 rfl (ae [1,14] ?_))))));refine dU rfl (aA (aj [1] rfl ?_));refine ao (ag (ab 4 rfl (ae [1,17,18] ?_)));refine aF (gG (fun(i:Nat)=>p.rows.length-i) (fun(i:Nat)=>put (put (put (emp) 1 (.box [.slice Af p.free.length cf,.slice Ar p.rows.length cr])) 17 (.val (.int .i64 (p.rows.length:Int)))) 18 (.val (.int .i64 (i:Int)))) (fun(i:Nat) H'=>H'=H∧(∀(k:Nat)(r:List Rat×Int×Rat),k<i→p.rows[k]? = some r→P3 p.free.length r)∧i≤p.rows.length) 0 (⟨rfl,(fun k r h=>by omega),Nat.zero_le _⟩) ar ?_);rintro i H1 ⟨e1,mf,hi⟩;rw[e1];refine ag (ab 1 rfl (ae [1,17,18,19] ?_));refine ao (aC rfl (fun hb=> ?_) (fun hb=> ?_))
  ·
   have aT:i<p.rows.length:=by simpa using hb
   obtain⟨r,hr⟩:∃r,p.rows[i]? = some r:=⟨_,List.getElem?_eq_getElem aT⟩;obtain⟨A0,c0,f,A1,m1,c1,A2,m2,c2,l4,me⟩:=iE i r hr;refine aA (aj [1,17,18] rfl ?_);refine ao (aF (ag (ab 2 rfl (ae [1,3,17,18] ?_))));refine ag (ab 3 rfl (ck (vs:=[.slice A0 r.1.length c0,.int .i64 r.2.1,.bool f,.slice A1 m1 c1,.slice A2 m2 c2]) ah rfl rfl rfl rfl fy rfl (by decide) me (by omega) (by omega) fun _=>(bt gY rfl ?_)));obtain⟨ti,ak,al⟩:=nM;refine aH (.inl ⟨rfl,rfl⟩) rfl rfl rfl ak al rfl rfl rfl (ae [1,4,17,18] ?_)
   by_cases h1:r.1.length=p.free.length
   ·
    skip
    by_cases h2:r.2.1<1
    ·
     skip
     refine ag (ab 6 rfl (aI false rfl rfl (wo (by omega)) (ab 3 rfl (aI true rfl rfl (jK h2) (ab 6 rfl (ae [1,17,18,42] ?_))))));refine dN rfl (ag (ab 1 rfl (ae [2] ?_)));refine aD ⟨.inr rfl,_,.tmp rfl (.nil),?_⟩;exact⟨rfl,false,rfl,⟨(fun h=>by cases h),(fun h=>by have h9:=(h.row i r hr).2;omega)⟩⟩
    skip
    by_cases h3:3<r.2.1
    ·
     skip
     refine ag (ab 6 rfl (aI false rfl rfl (wo (by omega)) (ab 3 rfl (aI false rfl rfl (ik (by omega)) (ab 4 rfl (aI true rfl rfl (nn h3) (ab 1 rfl (ae [1,17,18,42] ?_))))))));refine dN rfl (ag (ab 1 rfl (ae [2] ?_)));refine aD ⟨.inr rfl,_,.tmp rfl (.nil),?_⟩;exact⟨rfl,false,rfl,⟨(fun h=>by cases h),(fun h=>by have h9:=(h.row i r hr).2;omega)⟩⟩
    skip
    refine ag (ab 6 rfl (aI false rfl rfl (wo (by omega)) (ab 3 rfl (aI false rfl rfl (ik (by omega)) (ab 4 rfl (aI false rfl rfl (jw (by omega)) (ab 1 rfl (ae [1,17,18,42] ?_))))))));refine dU rfl (aA (aj [1,17,18] rfl ?_));refine aB rfl (aG rfl rfl ⟨by omega,by omega⟩ (ab 1 rfl (aw ?_)));exact⟨i+1,by omega,ar,rfl,(fun k r9 hk jm=>by by_cases h9:k<i;exact mf k r9 h9 jm;(obtain rfl:k=i:=by omega);rw[hr]at jm;cases jm;exact⟨by omega,by omega⟩),by omega⟩
   skip
   refine ag (ab 6 rfl (aI true rfl rfl (uQ (by omega)) (ab 10 rfl (ae [1,17,18,42] ?_))));refine dN rfl (ag (ab 1 rfl (ae [2] ?_)));refine aD ⟨.inr rfl,_,.tmp rfl (.nil),?_⟩;exact⟨rfl,false,rfl,⟨(fun h=>by cases h),(fun h=>by have h9:=(h.row i r hr).1;omega)⟩⟩
  have hb:p.rows.length≤i:=by simpa using hb
  refine aV (aj [] rfl ?_);refine ag (ab 1 rfl (ae [2] ?_));refine aD ⟨.inr rfl,_,.tmp rfl (.nil),?_⟩;exact⟨rfl,true,rfl,⟨fun _=>⟨by omega,by omega,fun k r hr=>mf k r (by have h9:=(List.getElem?_eq_some_iff.1 hr).1;omega) hr⟩,fun _=>rfl⟩⟩
end Go.au
namespace Go.au
open Go.Proofs Num Lp
theorem szc{n s N:Nat}(hn:n≤1000)(hs:s≤N+2)(hN:N≤400000000){k:Nat}(hk:k≤n):((k*(2*s+1)+1:Nat):Int)≤900000000000:=by
 have h1:k*(2*s+1)≤1000*(2*s+1):=Nat.mul_le_mul_right _ (by omega)
 omega
theorem Ns:aO 0≤1:=by decide
theorem aaU{H:Heap}{u v:Value}{l1 l2:List Rat}{N:Nat}(hu:aR (bN N) 3 H u l1)(hv:aR (bN N) 3 H v l2)(hl:l1.length=l2.length)(hn:l1.length≤1000)(hN:N≤400000000):
 Fn Tryz.prog 64 #[u,v] H (MH H (bK l1.length (fn l1) (fn l2))):=by
 have h1:=hu.MG
 have h2:=hv.MG
 obtain⟨A,c,ys,rfl,hc,hr,iw⟩:=hu
 obtain⟨A',c',ys',rfl,jH,dQ,aj3⟩:=hv
 have DN:=afJ (f:=fn l1) (g:=fn l2) (s:=N+2) (n:=l1.length) (fun k hk=>⟨W2 h1 hk,W2 h2 (by omega)⟩)
 rw[←hl];refine a7 (args:=[_,_]) Tryz.func64 rfl rfl Tryz.ntmps64 rfl rfl fun w0=> ?_;refine aj [0,1] rfl ?_;refine ag (bt bY rfl (ae [0,1,4] ?_));refine ag (aE rfl rfl ((pX (n:=0) (by decide) (by decide)).rc) ?_);rintro _ H1 ⟨cH,t1,rfl,cB⟩;rw[show ((0:Int):Rat)=0 from rfl]at cB;refine bt bY rfl ?_;obtain⟨ti,ak,al⟩:=aY;refine aH (.inl ⟨rfl,rfl⟩) rfl rfl rfl ak al rfl rfl rfl (ae [0,1,4,5] ?_);refine ao (ag (ab 1 rfl (ae [0,1,4,5,6] ?_)));refine aF (gX (fun(i:Nat)(t:RC)=>l1.length-i) (fun(i:Nat)(t:RC)=>put (put (put (put (put (emp) 0 (.val (.slice A l1.length c))) 1 (.val ((.slice A' l1.length c')))) 4 (.box [.bool false,.slice none 0 0,.slice none 0 0])) 5 (.box [.bool t.f,.slice t.A1 t.m1 t.c1,.slice t.A2 t.m2 t.c2])) 6 (.val (.int .i64 (i:Int)))) (fun(i:Nat)(t:RC) H'=>Heap.le H H'∧bJ H' t.v (bK i (fn l1) (fn l2))∧i≤l1.length) 0 t1 (⟨cH,cB,Nat.zero_le _⟩) ar ?_);rintro i t H2 ⟨dG,bU,hi⟩;refine ao (ag (ab 5 rfl (Vz rfl rfl ?_)));rw[show (if ((l1.length:Nat):Int)<((l1.length:Nat):Int)then((l1.length:Nat):Int)else((l1.length:Nat):Int))=((l1.length:Nat):Int)from if_neg (by omega)];refine ab 1 rfl (ae [0,1,4,5,6,14] ?_)
 refine aC rfl (fun hb=> ?_) (fun hb=> ?_)
 ·
  have aT:i<l1.length:=by simpa using hb
  obtain⟨q,jN⟩:∃q,l1[i]? = some q:=⟨_,List.getElem?_eq_getElem aT⟩;obtain⟨q2,aaV⟩:∃q,l2[i]? = some q:=⟨_,List.getElem?_eq_getElem (by omega)⟩;obtain⟨g5,B1,k1,e1,B2,k2,e2,aj4,aaW,IH⟩:=aR.qW iw jN;obtain⟨g6,D1,n1,d1,D2,n2,d2,Jk,pB,Jl⟩:=aR.qW aj3 aaV;have iX:=kT jN;have jV:=kT aaV;have oP:=DN i hi;have oK:=szc (s:=N+2) hn (Nat.le_refl _) hN hi;have rY:=vc q q2;have Ts:=aaW.size;have vv:=pB.size;refine aA (aj [0,1,4,5,6] rfl ?_);refine ao (aF (eu .bL [0,1,2,3,4,5,6,7,8,9,10,11] follows (by kernel_rfl) ?_));refine ab 3 rfl (ck (vs:=[.bool g5,.slice B1 k1 e1,.slice B2 k2 e2]) ah rfl rfl rfl rfl (hr.le dG) rfl (by decide) IH (by omega) (by omega) fun _=>(ab 2 rfl (ck (vs:=[.bool g6,.slice D1 n1 d1,.slice D2 n2 d2]) ah rfl rfl rfl rfl (dQ.le dG) rfl (by decide) Jl (by omega) (by omega) fun _=>(bm rfl rfl ((LW (aaW.le dG) (pB.le dG) (by omega)).rc) (fun _ _ h=>by first | exact h.le | exact h.1) ?_))));rintro _ H3 ⟨gO,t3,rfl,jC⟩;refine bm rfl rfl ((X7 (N:=900000000000) (((bJ.raw bU).mono (by unfold bK;omega)).le gO) ((bJ.raw jC).mono (by omega)) (by decide)).rc) (fun _ _ h=>by first | exact h.le | exact h.1) ?_;rintro _ H4 ⟨dW,t4,rfl,cJ⟩;rw[←iX,←jV,show bK i (fn l1) (fn l2)+fn l1 i*fn l2 i=bK (i+1) (fn l1) (fn l2)from rfl]at cJ
  obtain⟨ti,ak,al⟩:=aY;refine aH (.inl ⟨rfl,rfl⟩) rfl rfl rfl ak al rfl rfl rfl (aw (aj [0,1,4,5,6] rfl ?_));refine aB rfl (ab 1 rfl (aG rfl rfl ⟨by omega,by omega⟩ (ab 1 rfl (aw ?_))));exact⟨i+1,t4,by omega,ar,dG.trans (gO.trans dW),cJ,by omega⟩
 ·
  have hb:l1.length≤i:=by simpa using hb
  obtain rfl:i=l1.length:=by omega
  refine aV (aj [4,5] rfl ?_);refine ag (vr 1 ?_);obtain⟨ti,ak,al⟩:=aY;refine aH (.inl ⟨rfl,rfl⟩) rfl rfl rfl ak al rfl rfl rfl (ae [4] ?_);obtain⟨bQ,aM,aN⟩:=aY;refine aD ⟨.inr rfl,_,.agg rfl Tryz.underlying31 aM aN (.nil),?_⟩;exact⟨dG,t,rfl,bU⟩
end Go.au
namespace Go.au
open Go.Proofs Num Lp
end Go.au
namespace Go.au
open Go.Proofs Num Lp
end Go.au
namespace Go.au
open Go.Proofs Num Lp
def fC(r:List Rat×Int×Rat):List Rat×Int×Rat:=if kJ r.2.2 r.2.1=1 then r else(r.1.map (fun q=> -q),kB r.2.1 (-1),-r.2.2)
def aj5(N:Nat)(r:List Rat×Int×Rat)(H:Heap)(v:Value)(H':Heap):Prop:=Heap.le H H'∧∃A0 c0 f A1 m1 c1 A2 m2 c2,v = .agg #[.slice A0 r.1.length c0,.int .i64 (fC r).2.1,.bool f,.slice A1 m1 c1,.slice A2 m2 c2]∧fu (N+2) H' [.slice A0 r.1.length c0,.int .i64 (fC r).2.1,.bool f,.slice A1 m1 c1,.slice A2 m2 c2] (fC r)
theorem fu.mono{N M:Nat}{H:Heap}{vs:List Value}{r:List Rat×Int×Rat}(h:fu N H vs r)(hl:N≤M):fu M H vs r:=by
 obtain⟨c,f,u,w,h1,h2,h3⟩:=h
 exact⟨c,f,u,w,h1,h2.mono fun vs q a=>bN.mono a hl,h3.mono hl⟩
theorem Nu{r:List Rat×Int×Rat}(h:0<r.2.2∨(r.2.2=0∧r.2.1≠3)):fC r=r:=by
 have h1:¬(r.2.2<0∨(r.2.2=0∧r.2.1=3)):=by grind
 unfold fC kJ;rw[if_neg h1,if_pos rfl]
theorem aaX{r:List Rat×Int×Rat}(h:¬(0<r.2.2∨(r.2.2=0∧r.2.1≠3))):fC r=(r.1.map (fun q=> -q),kB r.2.1 (-1),-r.2.2):=by
 have h1:r.2.2<0∨(r.2.2=0∧r.2.1=3):=by grind
 unfold fC kJ;rw[if_pos h1,if_neg (by decide)]
theorem aj6{l:List Rat}{f:Rat→Rat}{j:Nat}{q:Rat}(h:l[j]? = some q):(l.take (j+1)).map f=(l.take j).map f ++ [f q]:=by
 rw[List.take_add_one,h,List.map_append];rfl
theorem aj7{H:Heap}{r:List Rat×Int×Rat}{N:Nat}{A0:Option Addr}{c0:Nat}{f:Bool}{A1:Option Addr}{m1 c1:Nat}{A2:Option Addr}{m2 c2:Nat}(hr:fu N H [.slice A0 r.1.length c0,.int .i64 r.2.1,.bool f,.slice A1 m1 c1,.slice A2 m2 c2] r)(hN:N≤400000000)(za:r.1.length≤1000)(lF:r.2.1=1∨r.2.1=2∨r.2.1=3):
 Fn Tryz.prog 134 #[.agg #[.slice A0 r.1.length c0,.int .i64 r.2.1,.bool f,.slice A1 m1 c1,.slice A2 m2 c2]] H (aj5 N r H):=by
 have pS:cn H (.agg #[.bool f,.slice A1 m1 c1,.slice A2 m2 c2]) r.2.2 N:=fu.bound hr
 have oJ:aR (bN N) 3 H (.slice A0 r.1.length c0) r.1:=fu.ZW hr
 obtain⟨A0',c0',x0,e0,mE,s8,Dk⟩:=id oJ
 cases e0
 have hbz:=pS.size
 have LH:=oJ.MG;refine a7 (args:=[_]) Tryz.func134 rfl rfl Tryz.ntmps134 rfl rfl fun w0=> ?_;refine aj [0] rfl ?_;refine ag (bX rfl rfl (bt gY rfl (ae [1,2] ?_)));refine ag (ab 2 rfl (aE rfl rfl (xB pS (by omega)) ?_));rintro _ H1 ⟨cH,rfl⟩;refine ab 1 rfl (ae [1,2,3] ?_);refine kE (fun(b:Bool)=>put (put (emp) 1 (.box [.slice A0 r.1.length c0,.int .i64 r.2.1,.bool f,.slice A1 m1 c1,.slice A2 m2 c2])) 2 (.box [.slice none 0 0,.int .i64 0,.bool false,.slice none 0 0,.slice none 0 0])) (fun(b:Bool) H'=>H'=H1∧fC r=(r.1.map (fun q=> -q),kB r.2.1 (-1),-r.2.2)) ?_ ?_
 ·
  by_cases g1:0<r.2.2
  ·
   skip
   refine ag (ab 1 rfl (aI true rfl rfl (nn (DW.2 g1)) (ab 9 rfl (ae [1,2,19] ?_))));refine dN rfl (ag (vr 1 ?_));obtain⟨ti,ak,al⟩:=nM;refine aH (.inl ⟨rfl,rfl⟩) rfl rfl rfl ak al rfl rfl rfl (ae [2] ?_);obtain⟨bQ,aM,aN⟩:=nM;refine aD ⟨.inr rfl,_,.agg rfl Tryz.underlying78 aM aN (.nil),?_⟩;exact⟨cH,A0,c0,f,A1,m1,c1,A2,m2,c2,by rw[Nu (by grind)];rfl,by rw[Nu (by grind)];exact gm _ _ _ _ _ cH (hr.mono (by omega))⟩
  ·
   skip
   by_cases g2:r.2.2=0
   ·
    skip
    by_cases g3:r.2.1=3
    ·
     skip
     refine ag (ab 1 rfl (aI false rfl rfl (jw (by have:=mt DW.1 g1;omega)) ?_));refine ab 2 rfl (aI true rfl rfl (jY (zh.2 g2)) (ab 3 rfl (aI false rfl rfl (wo g3) (ab 2 rfl (ae [1,2,19] ?_)))));refine dU rfl (aA ?_);exact⟨true,ar,rfl,aaX (by grind)⟩
    skip
    refine ag (ab 1 rfl (aI false rfl rfl (jw (by have:=mt DW.1 g1;omega)) ?_));refine ab 2 rfl (aI true rfl rfl (jY (zh.2 g2)) (ab 3 rfl (aI true rfl rfl (uQ g3) (ab 2 rfl (ae [1,2,19] ?_)))));refine dN rfl (ag (vr 1 ?_));obtain⟨ti,ak,al⟩:=nM;refine aH (.inl ⟨rfl,rfl⟩) rfl rfl rfl ak al rfl rfl rfl (ae [2] ?_);obtain⟨bQ,aM,aN⟩:=nM;refine aD ⟨.inr rfl,_,.agg rfl Tryz.underlying78 aM aN (.nil),?_⟩;exact⟨cH,A0,c0,f,A1,m1,c1,A2,m2,c2,by rw[Nu (by grind)];rfl,by rw[Nu (by grind)];exact gm _ _ _ _ _ cH (hr.mono (by omega))⟩
   skip
   refine ag (ab 1 rfl (aI false rfl rfl (jw (by have:=mt DW.1 g1;omega)) ?_));refine ab 2 rfl (aI false rfl rfl (ln (fun h=>g2 (zh.1 h))) (ab 6 rfl (ae [1,2,19] ?_)));refine dU rfl (aA ?_);exact⟨true,ar,rfl,aaX (by grind)⟩
 ·
  rintro b H3 ⟨e3,hp⟩;rw[e3];clear e3 H3;refine bO .bL [0,1,2,3,4,5,6,7] follows (by kernel_rfl) ?_;refine ab 4 rfl (bm rfl rfl ((Ei (pS.le cH) (by omega)).rc) (fun _ _ h=>by first | exact h.le | exact h.1) ?_);rintro _ H2 ⟨dG,t4,rfl,cJ⟩;have nE:=cH.trans dG;refine dy ah rfl gY rfl rfl (bt gY rfl ?_);obtain⟨ti,ak,al⟩:=nM;refine aH (.inl ⟨rfl,rfl⟩) rfl rfl rfl ak al rfl rfl rfl (ae [1,2,4] ?_);refine kE (fun(rl:Int)=>put (put (put (emp) 1 (.box [.slice A0 r.1.length c0,.int .i64 r.2.1,.bool f,.slice A1 m1 c1,.slice A2 m2 c2])) 2 (.box [.slice none 0 0,.int .i64 0,.bool false,.slice none 0 0,.slice none 0 0])) 4 (.box [.slice none 0 0,.int .i64 rl,.bool t4.f,.slice t4.A1 t4.m1 t4.c1,.slice t4.A2 t4.m2 t4.c2])) (fun(rl:Int) H'=>H'=H2∧rl=kB r.2.1 (-1)) ?_ ?_
  ·
   refine ag (ab 3 rfl (ae [1,2,4,29] ?_));refine aC rfl (fun hb=> ?_) (fun hb=> ?_)
   ·
    have cD:¬r.2.1=2:=by simpa using hb
    refine aB rfl (ab 2 rfl (cV rfl rfl ⟨by omega,by omega⟩ (vr 1 ?_)));obtain⟨ti,ak,al⟩:=pM;refine aH (.inr rfl) rfl rfl rfl ak al rfl rfl rfl (aw ?_);exact⟨_,ar,rfl,by unfold kB;rw[if_neg (by decide),if_neg cD]⟩
   have cD:r.2.1=2:=by simpa using hb
   refine aA ?_;exact⟨_,ar,rfl,by unfold kB;rw[if_neg (by decide),if_pos cD];exact cD⟩
  rintro rl H3 ⟨e3,nB⟩;rw[e3];clear e3 H3;refine ao (ag (ab 4 rfl (ae [1,2,4,36,37] ?_)));refine aF (fZ (fun(j:Nat)(w:Value)(Nv:List Value)=>r.1.length-j) (fun(j:Nat)(w:Value)(Nv:List Value)=>put (put (put (put (put (emp) 1 (.box [.slice A0 r.1.length c0,.int .i64 r.2.1,.bool f,.slice A1 m1 c1,.slice A2 m2 c2])) 2 (.box [.slice none 0 0,.int .i64 0,.bool false,.slice none 0 0,.slice none 0 0])) 4 (.box [w,.int .i64 rl,.bool t4.f,.slice t4.A1 t4.m1 t4.c1,.slice t4.A2 t4.m2 t4.c2])) 36 (.val (.int .i64 (r.1.length:Int)))) 37 (.val (.int .i64 (j:Int)))) (fun(j:Nat)(w:Value)(Nv:List Value) H'=>ea bZ 31 3 H2 H' w ((r.1.take j).map (fun q=> -q)) Nv∧j≤r.1.length) 0 (.slice none 0 0) [] (⟨IK H2,Nat.zero_le _⟩) ar ?_);rintro j w Nv H4 ⟨hG,hj⟩;obtain⟨F1,f1,rfl⟩:=hG.form
  have jq:((r.1.take j).map (fun q=> -q)).length=j:=by simp;omega
  refine ag (ab 1 rfl (ae [1,2,4,36,37,38] ?_));refine ao (aC rfl (fun hb=> ?_) (fun hb=> ?_))
  ·
   have fL:j<r.1.length:=by simpa using hb
   obtain⟨q,jN⟩:∃q,r.1[j]? = some q:=⟨_,List.getElem?_eq_getElem fL⟩;obtain⟨g6,G1,n1,o1,G2,n2,o2,Jk,pB,Jl⟩:=aR.qW Dk jN;refine aA (aj [1,2,4,36,37] rfl ?_);refine ao (aF (ag (ab 2 rfl (ae [1,2,4,5,36,37] ?_))));refine eu .bL [0,1,2,3,4,5,6,7,8,9,10,11] follows (by kernel_rfl) ?_;refine ab 5 rfl (ck (vs:=[.bool g6,.slice G1 n1 o1,.slice G2 n2 o2]) ah rfl rfl rfl rfl (s8.le (nE.trans hG.le)) rfl (by decide) Jl (by omega) (by omega) fun _=>(bm rfl rfl (hG.call (Ei (pB.le (nE.trans hG.base)) (by omega))) (fun _ _ h=>h.le fun _ _ h=>h.1) ?_));rintro _ H6 iH;have fK:=hG.kV dY iH fun _ _ h=>h.1;obtain⟨⟨_,jO⟩,_⟩:=iH;obtain⟨t6,rfl⟩:=jO.rc;refine cW Tryz.underlying26 bY rfl rfl rfl rfl rfl rfl rfl ?_;intro gc j9;have xX:=fK.ins dY (whole (cG [t6.v]) 31) j9;refine dR Tryz.underlying26 bY rfl rfl xX.own (dD _ _ _ _ _ _) rfl (Cl _ _ _ _ _ _ _) (by rw[jq];omega) (by rw[jq];omega) ?_;intro v7 H7 uj;have iI:=xX.append dY (k:=[-q]) (by simp) uj (iP (dY _ _ _ _ (qB _ (Heap.bB _ j9)) (show bZ _ [_,_,_] _ from jO)) rfl);obtain⟨F7,f7,rfl⟩:=iI.form;refine vr 1 ?_;obtain⟨ti,ak,al⟩:=FV;refine aH (.inr rfl) rfl rfl rfl ak al rfl rfl rfl ?_
   refine aw (aj [1,2,4,36,37] rfl ?_);refine aB rfl (aG rfl rfl ⟨by omega,by omega⟩ (ab 1 rfl (aw ?_)));exact⟨j+1,_,_,by omega,ar,by rw[aj6 jN];exact iI,by omega⟩
  have fL:r.1.length≤j:=by simpa using hb
  obtain rfl:j=r.1.length:=by omega
  rw[List.take_length]at hG jq;have dW:=nE.trans hG.le
  have fH:=(hG.sl dY).zE (N:=N+2) (fun q hq=>by
   obtain⟨q',pK,rfl⟩:=List.mem_map.1 hq
   rw[wP];exact LH q' pK)
  rw[jq]at fH;refine aV (aj [2,4] rfl ?_);refine ag (vr 1 ?_);obtain⟨ti,ak,al⟩:=nM;refine aH (.inl ⟨rfl,rfl⟩) rfl rfl rfl ak al rfl rfl rfl (ae [2] ?_);obtain⟨bQ,aM,aN⟩:=nM;refine aD ⟨.inr rfl,_,.agg rfl Tryz.underlying78 aM aN (.nil),?_⟩
  skip
  simp only[List.take_length,jq]
  exact⟨dW,F1,f1,t4.f,t4.A1,t4.m1,t4.c1,t4.A2,t4.m2,t4.c2,by rw[hp,nB];rfl,by rw[hp,←nB];exact⟨_,_,_,_,rfl,fH,((bJ.raw cJ).mono (by rw[wP];omega)).le hG.le⟩⟩
end Go.au
namespace Go.au
open Go.Proofs Num Lp
theorem xY{α:Type}{l:List α}{k n:Nat}{a:α}(h:l[k]? = some a)(hk:k<n):(fill l n)[k]? = some (some a):=by
 unfold fill
 have hl:=(List.getElem?_eq_some_iff.1 h).1
 rw[List.getElem?_append_left (by rw[List.length_map,List.length_take];omega),List.getElem?_map,List.getElem?_take,if_pos hk,h];rfl
theorem aj8{f:Nat→Rat}{W k:Nat}{q:Rat}(hk:k<W):(fill (aK f W) (k+1)).set k (some q)=fill (aK (bV f k q) W) (k+1):=by
 apply List.ext_getElem?
 intro i
 have hl:=ny (l:=aK f W) (k:=k+1) (by rw[bg];omega)
 have kN:=ny (l:=aK (bV f k q) W) (k:=k+1) (by rw[bg];omega)
 rw[bg]at hl kN
 by_cases hi:i<W
 ·by_cases e:i=k
  ·subst e
   rw[List.getElem?_set_self (by omega),xY (dJ hi) (Nat.lt_succ_self _),qX]
  ·rw[List.getElem?_set_ne (fun e'=>e e'.symm)]
   by_cases h2:i<k+1
   ·rw[xY (dJ hi) h2,xY (dJ hi) h2,pz e]
   ·unfold fill
    rw[List.getElem?_append_right (by simp;omega),List.getElem?_append_right (by simp;omega)]
    simp[bg]
 ·rw[List.getElem?_eq_none (by rw[List.length_set];omega),List.getElem?_eq_none (by omega)]
theorem aj9{W k n:Nat}{xs:List Value}{f:Nat→Rat}(h:qd W xs f n)(hk:k<n)(hn:n≤W):∃a d:Int,fA [.int .i64 a,.int .i64 d] (f k)∧∀(j:Nat)(v:Value),[.int .i64 a,.int .i64 d][j]? = some v→xs[k*2+j]? = some v:=by
 have h:bC _ _ _ _:=h
 obtain⟨vs,_,h2,h3⟩:=h.get (xY (dJ (f:=f) (n:=W) (show k<W by omega)) hk)
 have h2:fA vs (f k):=h2
 obtain⟨a,d,rfl,h4⟩:=id h2
 exact⟨a,d,h2,h3⟩
theorem aka{W k:Nat}{xs vs:List Value}{f:Nat→Rat}{q:Rat}(h:qd W xs f (k+1))(hk:k<W)(hv:fA vs q):qd W (aL xs (k*2) vs) (bV f k q) (k+1):=by
 show bC _ _ _ _
 rw[←aj8 hk]
 have h:bC _ _ _ _:=h
 exact h.set (by rw[ny (by rw[bg];omega),bg];exact hk) (show ib qZ _ vs (some q)from hv) (by obtain⟨a,b,rfl,_⟩:=hv;rfl)
theorem akb{W k:Nat}{xs:List Value}{f f':Nat→Rat}(h:qd W xs f k)(he:∀j,j<k→f' j=f j):qd W xs f' k:=by
 have h:bC _ _ _ _:=h
 refine⟨by rw[h.len];simp[fill,bg],fun i a ha=> ?_⟩
 unfold fill at ha
 by_cases hi:i<((aK f' W).take k).length
 ·rw[List.getElem?_append_left (by rw[List.length_map];exact hi),List.getElem?_map,List.getElem?_take]at ha
  rw[List.length_take,bg]at hi
  rw[if_pos (by omega),dJ (by omega)]at ha
  cases ha
  have h2:=h.at_ i _ (xY (dJ (f:=f) (n:=W) (show i<W by omega)) (show i<k by omega))
  rw[he i (by omega)];exact h2
 ·rw[List.getElem?_append_right (by rw[List.length_map];omega)]at ha
  have:=(List.getElem?_eq_some_iff.1 ha).2
  rw[List.getElem_replicate]at this
  subst this;trivial
structure QY(o:Bool)(K H:Heap)(g:Nat)(G:GG)(R W m:Nat)(M:Nat→Nat→Rat)(B:Nat→Nat)(z:Nat)(f:Nat→Rat)(k:Nat):Prop where
 q:QV o H g (G.on (z::G.top)) R W m M B
 row:∃xs,H z=some ⟨xs,W*2,163,true⟩∧qd W xs f k
 ne:z≠g
 le:Heap.le K (rem H (G.on (z::G.top)).gs)
section
variable {o o':Bool} {K H H':Heap} {g:Nat} {G:GG} {R W m z k:Nat} {M:Nat→Nat→Rat} {B:Nat→Nat} {f:Nat→Rat}
theorem QY.put(h:QY o K H g G R W m M B z f k)(ht:fS (G.on (z::G.top)).gs g H H')(iB:H' g=some ⟨[.slice G.Ar R G.cr,G.bv,.bool o'],3,160,true⟩){xs:List Value}{f':Nat→Rat}{k':Nat}(iw:qd W xs f' k'):QY o' K (ins H' z ⟨xs,W*2,163,true⟩) g G R W m M B z f' k':=by
 have h1:=h.q.uz ht iB
 have hm:z∈(G.on (z::G.top)).gs:=QZ.mU
 have hT:fS (G.on (z::G.top)).gs z H' (ins H' z ⟨xs,W*2,163,true⟩):=((Kept.refl _ _).iD z).ins hm _
 exact⟨⟨h1.cY.Cp (List.mem_cons_self ..) hT (by rw[bD];simp),h1.gt,by rw[a6 _ _ (Ne.symm h.ne)];exact h1.st⟩,⟨_,bD _ _ _,iw⟩,h.ne,h.le.trans (ht.le.trans hT.le)⟩
end
def ra(p:Prg)(M:Nat→Nat→Rat)(k i:Nat):Rat:=if k<p.u∨k=p.w then-bo i (fun q=>if p.u≤p.unit q then M q k else 0)else 0
theorem aaY{p:Prg}{M:Nat→Nat→Rat}{k:Nat}:ra p M k 0=0:=by
 unfold ra;split
 ·show -0=(0:Rat);grind
 ·rfl
theorem aaZ{p:Prg}{M:Nat→Nat→Rat}{k i:Nat}(h:p.u≤p.unit i∧(k<p.u∨k=p.w)):ra p M k (i+1)=ra p M k i-M i k:=by
 unfold ra;rw[if_pos h.2,if_pos h.2,fW,if_pos h.1];grind
theorem aa0{p:Prg}{M:Nat→Nat→Rat}{k i:Nat}(h:¬(p.u≤p.unit i∧(k<p.u∨k=p.w))):ra p M k (i+1)=ra p M k i:=by
 unfold ra
 by_cases h2:k<p.u∨k=p.w
 ·rw[if_pos h2,if_pos h2,fW,if_neg (fun h1=>h ⟨h1,h2⟩)];grind
 ·rw[if_neg h2,if_neg h2]
theorem aa1{p:Prg}{M:Nat→Nat→Rat}{k:Nat}:ra p M k p.lp.m=q3 p M k:=rfl
def wid(p:Prg)(i:Nat):Nat:=if i=0 then p.u+1 else p.w+1
theorem akc{p:Prg}:wid p p.lp.m=p.w+1:=by
 unfold wid
 split
 ·rename_i h
  have e:p.w=p.u:=by show aX _ _ _ p.lp.m=_;rw[h];rfl
  omega
 ·rfl
theorem akd(l:List Rat):aK (fn l) l.length=l:=by
 apply List.ext_getElem?
 intro j
 by_cases hj:j<l.length
 ·rw[dJ hj,List.getElem?_eq_getElem hj,kT (List.getElem?_eq_getElem hj)]
 ·rw[List.getElem?_eq_none (by rw[bg];omega),List.getElem?_eq_none (by omega)]
theorem bZ.rc{H:Heap}{vs:List Value}{q:Rat}(h:bZ H vs q):∃t:RC,vs = [.bool t.f,.slice t.A1 t.m1 t.c1,.slice t.A2 t.m2 t.c2]∧bJ H t.v q:=by
 obtain⟨t,e⟩:=bJ.rc (show bJ H (.agg vs.toArray) q from h)
 have h2:=y8 e
 refine⟨t,h2,?_⟩
 rw[←e];exact h
theorem bN.rc{H:Heap}{vs:List Value}{q:Rat}{N:Nat}(h:bN N H vs q):∃t:RC,vs = [.bool t.f,.slice t.A1 t.m1 t.c1,.slice t.A2 t.m2 t.c2]∧cn H t.v q N:=by
 obtain⟨f,A,m,c,A',m',c',rfl⟩:=bN.cells h
 exact⟨⟨f,A,m,c,A',m',c'⟩,rfl,h⟩
theorem QV.sQ{o:Bool}{H:Heap}{g:Nat}{G:GG}{R W m:Nat}{M:Nat→Nat→Rat}{B:Nat→Nat}(h:QV o H g G R W m M B):∃Ab cb,G.bv = .slice Ab m cb∧∀{o' H' R' M' B'},QV o' H' g G R' W m M' B'→∀i,i<m→Rd H' Ab (eL B' m):=by
 rcases h.cY.basis with ⟨h1,h2,h3⟩ | ⟨gb,cb,sz,h1,h2,h3⟩
 ·exact⟨none,0,by rw[h3,h1],fun _ i hi=>by omega⟩
 ·refine⟨_,cb,h2,fun h' i hi=> ?_⟩
  rcases h'.cY.basis with ⟨k1,k2,k3⟩ | ⟨Cw,M6,eS,k1,k2,k3⟩
  ·omega
  ·rw[h1]at k1;cases k1;exact dS k3
theorem Rd.at{H:Heap}{ad:Addr}{xs:List Value}(h:Rd H (some ad) xs):∀(i:Nat)(v:Value),xs[i]? = some v→cell H (ad.add i)=some v:=fun i v hv=>by
 obtain⟨FH,h1,h2⟩:=h i v hv
 cases h1;exact h2
theorem QZ.iD{o:Bool}{S H:Heap}{g:Nat}{G:GG}{R W m z:Nat}{M:Nat→Nat→Rat}{B:Nat→Nat}{f:Nat→Rat}(h:QZ o (rem S G.gs) S H g G R W m M B z f):fS G.gs g S H:=⟨h.le.trans (Ba H z G.gs),h.same⟩
theorem Nw{H H':Heap}{v v':Value}{e n:Nat}{rg:List (Nat×Nat)}{W z c:Nat}(h:App H v e 1 n (iT rg W ++ [Value.slice (some ⟨z,0,none⟩) W c]) v' H'):App H v e 1 n (iT (rg ++ [(z,c)]) W) v' H':=by
 unfold iT at h⊢;rw[List.map_append];exact h
theorem aa2{rg:List (Nat×Nat)}{W z c:Nat}:iT rg W++cG [Value.slice (some ⟨z,0,none⟩) W c]=iT (rg ++ [(z,c)]) W:=by
 unfold iT;rw[List.map_append];rfl
theorem ake{B:Nat→Nat}{m:Nat}:∀u,u∈eL B m→u.oneCell'=true:=fun u hu=>by
 obtain⟨i,_,rfl⟩:=List.mem_map.1 hu
 rfl
theorem aa3{n d:Int}:∀u,u∈cG [Value.agg #[.int .i64 n,.int .i64 d]]→u.oneCell'=true:=fun u hu=>by
 have hu:u∈[Value.int .i64 n,.int .i64 d]:=hu
 simp only[List.mem_cons,List.not_mem_nil,or_false]at hu
 rcases hu with rfl | rfl <;> rfl
theorem QV.CE{o:Bool}{H:Heap}{g:Nat}{G:GG}{R W m:Nat}{M M':Nat→Nat→Rat}{B:Nat→Nat}(h:QV o H g G R W m M B)(hM:∀i,i<R→∀j,j<W→M' i j=M i j):QV o H g G R W m M' B:=⟨h.cY.congr hM fun _ _=>rfl,h.gt,h.st⟩
theorem akf{H:Heap}{bv:Value}{B:Nat→Nat}{M:Nat→Nat→Rat}{m W g:Nat}(ho:bW H bv 3 1 m (eL B m))(hg:H g=none):∃G:GG,(G.top = [g]∧G.gs=g::az bv)∧QV false (ins H g ⟨[.slice none 0 0,bv,.bool false],3,160,true⟩) g G 0 W m M B:=by
 have hn:∀q,q∈az bv→q≠g:=fun q hq e=>by
  obtain⟨en,he⟩:=ho.block (cM.1 hq)
  rw[e,hg]at he;cases he
 refine⟨⟨[g],[],az bv,bv,[],none,0⟩,⟨rfl,?_⟩,⟨⟨?_,fun q hq=> ?_,rfl,rfl,lk _ _ _,fun i p hp=> ?_,?_⟩,List.mem_singleton.2 rfl,bD _ _ _⟩⟩
 ·show [g]++([]++(az bv ++ []))=_
  simp
 ·show ([g]++([]++(az bv ++ []))).Nodup
  simp only[List.nil_append,List.append_nil,List.singleton_append]
  exact List.nodup_cons.2 ⟨fun hm=>hn g hm rfl,SI _⟩
 ·rw[List.mem_singleton.1 hq,bD];simp
 ·have hp:([]:List (Nat×Nat))[i]? = some p:=hp
  simp at hp
 ·rcases ho.2 with ⟨h1,h2⟩ | ⟨gb,cap,h1,h2,_⟩
  ·exact .inl ⟨h2,by show az bv = [];rw[h1];rfl,h1⟩
  ·refine .inr ⟨gb,cap,cap*1,by show az bv = [gb];rw[h1];rfl,h1,?_⟩
   rw[a6 _ _ (hn gb (by rw[h1];exact List.mem_singleton.2 rfl))];exact h2
theorem akg{H1 H2:Heap}{bv:Value}{B:Nat→Nat}{M:Nat→Nat→Rat}{m W g:Nat}{G:GG}{xs:List Value}(h:QV false (ins H2 g ⟨[.slice none 0 0,bv,.bool false],3,160,true⟩) g G 0 W m M B)(ha:App H1 (.slice none 0 0) 3 1 m xs bv H2)(hg:H2 g=none)(hG:G.top = [g]∧G.gs=g::az bv):Heap.le H1 (rem (ins H2 g ⟨[.slice none 0 0,bv,.bool false],3,160,true⟩) G.gs):=fun q en hq=>by
 have h1:=ha.same q en hq fun e=>by cases e
 have h2:q≠g:=fun e=>by rw[e,hg]at h1;cases h1
 refine⟨en,?_,.refl _⟩
 rw[bM,a6 _ _ h2]
 ·exact h1
 ·rw[hG.2]
  intro hm
  rcases List.mem_cons.1 hm with hm | hm
  ·exact h2 hm
  ·rcases ha.new q hm with h3 | h3
   ·cases h3
   ·rw[h3]at hq;cases hq
def QkP(p:Prg)(c:List Rat)(st:Int)(xv:Value)(H:Heap):Prop:=(st=1∧∃x,aR bZ 3 H xv x∧x.length=p.free.length∧vP p c 1 (bK p.free.length (fn c) (fn x))∧∀q,q∈x→aO q≤17)∨(st≠1∧vP p c st 0)
theorem akh{H:Heap}{p:Prg}{c:List Rat}{pv cv:Value}{Ar Ab:Option Addr}{cr cb N N0:Nat}{rg:List (Nat×Nat)}(a8:p.Ok)(fi:c.length=p.free.length)(hp:eH N H pv p)(hc:aR (bN N) 3 H cv c)(hN:(N:Int)≤4398046511000)(ht:Jd H Ar Ab rg p.lp.m (p.w+1) (dL p) p.unit)(hz:∀i,i<p.lp.m→∀j,j≤p.w→aO (dL p i j)≤N0)(DS:(N0:Int)≤4398046511000):
 Fn Tryz.prog 63 #[pv,cv,.agg #[.slice Ar p.lp.m cr,.slice Ab p.lp.m cb],.int .i64 (p.u:Int)] H (fun v H'=>∃st xv b,v = .tuple #[.int .i64 st,xv,.bool b]∧Heap.le H H'∧(b=true→QkP p c st xv H')):=by
 obtain⟨fv,gB,rfl,eI,fk⟩:=id hp
 obtain⟨Ac,cc,xc,rfl,Mp,nT,tI⟩:=id hc
 have pQ:=HO p
 have Tt:=a8.iu
 have Tu:=a8.rows
 have aki:p.lp.m≤800:=Tu
 have aa4:p.lp.n≤400:=Tt
 have mL:=fj p
 have akj:=mc p;refine a7 (args:=[_,_,_,_]) Tryz.func63 rfl rfl Tryz.ntmps63 rfl rfl fun w0=> ?_;refine aj [0,1,2,3] rfl ?_;refine ag (bX rfl rfl (bX rfl rfl (ab 3 rfl (ae [1,3,4,6] ?_))));refine MP 4 rfl fun g4 e4 BL=> ?_;have BC:Rd (ins H g4 ⟨[fv,gB],2,e4,true⟩) (some ⟨g4,0,none⟩) [fv,gB]:=dD _ _ _ _ _ _;have dW:Heap.le H (ins H g4 ⟨[fv,gB],2,e4,true⟩):=Heap.bB _ BL
 show VC _ _ _ _ _ _ _ (ins H g4 ⟨[fv,gB],2,e4,true⟩)
 generalize ins H g4 ⟨[fv,gB],2,e4,true⟩=H1 at *
 have zQ:=ht.le dW;refine ag (ab 2 rfl (dR Tryz.underlying94 jb rfl rfl (lk H1 3 1) (zQ.sQ) (by rw[By,Nat.mul_one]) (ake) (by omega) (by omega) ?_));intro bv H2 lN;rw[List.nil_append,Nat.zero_add]at lN;obtain⟨A2,c2,rfl⟩:=lN.own.form;refine dy ah rfl aeg rfl rfl (OI rfl rfl ?_);intro g hg;obtain⟨G0,akk,jz⟩:=akf (M:=dL p) (W:=p.w+1) lN.own hg;have BQ:Heap.le H1 (rem (ins H2 g ⟨[.slice none 0 0,.slice A2 p.lp.m c2,.bool false],3,160,true⟩) G0.gs):=akg jz lN hg akk;refine ab 1 rfl (ae [1,3,4,6,11] ?_);refine ag (ab 1 rfl (aG rfl rfl ⟨by omega,by omega⟩ (ab 1 rfl (ae [1,3,4,6,11,12] ?_))));refine ao (ag (ab 4 rfl (ae [1,3,4,11,12,39,40,41] ?_)));refine aF (gX (fun(i:Nat)(G:GG)=>p.lp.m-i) (fun(i:Nat)(G:GG)=>put (put (put (put (put (put (put (put (emp) 1 (.val (.slice Ac c.length cc))) 3 (.val (.int .i64 (p.u:Int)))) 4 (.val (.pointer (some ⟨g4,0,none⟩)))) 11 (.val (.pointer (some ⟨g,0,none⟩)))) 12 (.val (.int .i64 (wid p i:Int)))) 39 (.val (.slice Ar p.lp.m cr))) 40 (.val (.int .i64 (p.lp.m:Int)))) 41 (.val (.int .i64 (i:Int)))) (fun(i:Nat)(G:GG) H'=>QV false H' g G i (p.w+1) p.lp.m (dL p) p.unit∧Heap.le H1 (rem H' G.gs)∧i≤p.lp.m) 0 G0 (⟨jz,BQ,Nat.zero_le _⟩) (by repeat (first | exact iL _ | refine du rfl ?_ | refine du (ja (by first | omega | (simp;done) | (simp[wid];done))) ?_)) ?_)
 rintro i G H3 ⟨hq,hl,hi⟩;have hlH:=dW.trans (hl.trans (bE _ _));refine ag (ab 1 rfl (ae [1,3,4,11,12,39,40,41,42] ?_));refine ao (aC rfl (fun hb=> ?_) (fun hb=> ?_))
 ·
  have aT:i<p.lp.m:=by simpa using hb
  obtain⟨pi,cS⟩:∃pi,rg[i]? = some pi:=⟨_,List.getElem?_eq_getElem (by rw[ht.len];exact aT)⟩;obtain⟨xp,l4,hep⟩:=zQ.row i pi cS;refine aA (aj [1,3,4,11,39,40,41] rfl ?_);refine ao (aF (ag (aQ ah rfl rfl rfl rfl rfl (zQ.kR.le (hl.trans (bE _ _))) (by rw[Int.toNat_natCast];exact kA cS) (by omega) (by omega) fun _=> ?_)));refine ab 1 rfl (ae [1,3,4,11,14,39,40,41] ?_);refine ag (ab 2 rfl (gF Tryz.underlying161 fO rfl rfl rfl (by omega) (by omega) (by omega) (by omega) ?_));intro z Jm;have xF:=ajP (P:=qZ) (e:=163) (sz:=2) (zs:=[.int .i64 0,.int .i64 0]) (z:=0) (k:=((p.w+1:Nat):Int)) (c:=p.w+1) Jm rfl (Int.toNat_natCast _) (by unfold maxLen;omega) hq.cY.ne;rw[Int.toNat_natCast]at xF⊢;refine ab 1 rfl (ae [1,3,4,11,14,15,39,40,41] ?_);refine ao (ag (ab 3 rfl (ae [1,3,4,11,15,39,40,41,48,49,50] ?_)));refine aF (fZ (fun(j:Nat)(w:Value)(xs:List Value)=>p.w+1-j) (fun(j:Nat)(w:Value)(xs:List Value)=>put (put (put (put (put (put (put (put (put (put (put (emp) 1 (.val (.slice Ac c.length cc))) 3 (.val (.int .i64 (p.u:Int)))) 4 (.val (.pointer (some ⟨g4,0,none⟩)))) 11 (.val (.pointer (some ⟨g,0,none⟩)))) 15 (.val (w))) 39 (.val (.slice Ar p.lp.m cr))) 40 (.val (.int .i64 (p.lp.m:Int)))) 41 (.val (.int .i64 (i:Int)))) 48 (.val (.slice (some ⟨pi.1,0,none⟩) (p.w+1) pi.2))) 49 (.val (.int .i64 ((p.w+1:Nat):Int)))) 50 (.val (.int .i64 (j:Int)))) (fun(j:Nat)(w:Value)(xs:List Value) H'=>gS G.gs H3 qZ 163 2 H' w (aK (dL p i) j) xs∧j≤p.w+1) 0 _ _ (⟨xF,Nat.zero_le _⟩) ar ?_)
  rintro j w xs H5 ⟨hX,hj⟩;obtain⟨A5,c5,e5⟩:=hX.form;rw[bg]at e5;subst e5;have Jn:=hl.trans hX.base;refine ag (ab 1 rfl (ae [1,3,4,11,15,39,40,41,48,49,50,51] ?_));refine ao (aC rfl (fun hb=> ?_) (fun hb=> ?_))
  ·
   have hjW:j<p.w+1:=by simp at hb;omega
   obtain⟨vs,_,Tv,CC⟩:=hep.get (dJ hjW);obtain⟨t,rfl,Tx⟩:=bZ.rc Tv;have hzj:=hz i aT j (by omega);refine aA (aj [1,3,4,11,15,39,40,41,48,49,50] rfl ?_);refine ao (aF (ag (ck (vs:=[.bool t.f,.slice t.A1 t.m1 t.c1,.slice t.A2 t.m2 t.c2]) ah rfl rfl rfl rfl (l4.le (Jn.trans (bE _ _))) rfl (by decide) (by rw[Int.toNat_natCast];exact CC) (by omega) (by omega) fun _=> ?_)));refine bt bY rfl ?_;obtain⟨ti,ak,al⟩:=aY;refine aH (.inl ⟨rfl,rfl⟩) rfl rfl rfl ak al rfl rfl rfl (ae [1,3,4,11,15,17,39,40,41,48,49,50] ?_);refine ag (ab 1 rfl (aE rfl rfl (hX.call (aaa (N:=N0) ((bJ.raw (Tx.le Jn)).mono hzj) DS)) ?_));rintro _ H6 iH;have Jo:=hX.kV zN iH fun _ _ h=>h.1;obtain⟨⟨_,n6,d6,b6,rfl,Eh⟩,_⟩:=iH;refine ab 3 rfl (bt fO rfl ?_);obtain⟨ti,ak,al⟩:=eh;refine aH (.inl ⟨rfl,rfl⟩) rfl rfl rfl ak al rfl rfl rfl (ab 1 rfl (ae [1,3,4,11,15,18,19,39,40,41,48,49,50] ?_));refine ao (ag (ab 2 rfl (ae [1,3,4,11,15,18,39,40,41,48,49,50,60] ?_)));refine aC rfl (fun hb=> ?_) (fun hb=> ?_)
   ·
    skip
    refine ag (ab 3 rfl (ae [8,9,10] ?_));refine aD ⟨.inr rfl,_,.tmp rfl (.tmp rfl (.tmp rfl (.nil))),?_⟩;exact⟨0,.slice none 0 0,false,rfl,dW.trans (hl.trans (Jo.base.trans (bE _ _))),fun h9=>by cases h9⟩
   have wc:=Eh (by simpa using hb);refine aA (aj [1,3,4,11,15,18,39,40,41,48,49,50] rfl ?_);refine aB rfl (ab 2 rfl (cW Tryz.underlying161 fO rfl rfl rfl rfl rfl rfl rfl ?_));intro gb bx;have Jp:=Jo.ins zN (whole (cG [.agg #[.int .i64 n6,.int .i64 d6]]) 163) bx;refine dR Tryz.underlying161 fO rfl rfl Jp.own (dD _ _ _ _ _ _) rfl aa3 (by rw[bg];omega) (by rw[bg];omega) ?_;intro W9 H7 uj;have Tz:=Jp.append zN (j:=[dL p i j]) (by simp) uj (iP (show qZ _ [_,_] _ from wc) rfl);refine ab 1 rfl (aw (aj [1,3,4,11,15,39,40,41,48,49,50] rfl ?_));refine aB rfl (aG rfl rfl ⟨by omega,by omega⟩ (ab 1 rfl (aw ?_)));exact⟨j+1,_,_,by omega,ar,by rw[xg];exact Tz,by omega⟩
  ·
   have hjW:p.w+1≤j:=by simp at hb;omega
   obtain rfl:j=p.w+1:=by omega
   obtain⟨z,cz,ez,Nx⟩:=Q8 hX.own (by rw[bg];omega);rw[bg]at ez;have e1:=(Value.slice.inj ez).1;have e2:=(Value.slice.inj ez).2.2;subst e1;subst e2;clear ez;obtain⟨hgX,akl,heX⟩:=hX.cY hq.cY;have hqX:QV false H5 g (G.on (z::G.top)) i (p.w+1) p.lp.m (dL p) p.unit:=⟨hgX,List.mem_cons_of_mem _ hq.gt,(hX.same g hq.mem).trans hq.st⟩;have nW:z≠g:=fun e9=>hX.apart g hq.mem (by rw[←e9];exact List.mem_singleton.2 rfl);have TA:py vK (rem H5 (G.on (z::G.top)).gs) H5 z (aK (dL p i) (p.w+1)):=⟨_,_,Nx,hX.mg⟩;refine aV (aj [1,3,4,11,15,39,40,41] rfl ?_);refine aB rfl (ab 3 rfl (aU ah rfl rfl rfl (aS ah rfl rfl rfl (hqX.iR) (ab 1 rfl (cW Tryz.underlying158 De rfl rfl rfl rfl rfl rfl rfl ?_)))));intro gb bx;obtain⟨uW,sR⟩:=hqX.fresh (e:=whole [.slice (some ⟨z,0,none⟩) (p.w+1) c5] 161) bx;have TB:py vK (rem (ins H5 gb (whole [.slice (some ⟨z,0,none⟩) (p.w+1) c5] 161)) (G.on (z::G.top)).gs) (ins H5 gb (whole [.slice (some ⟨z,0,none⟩) (p.w+1) c5] 161)) z (aK (dL p i) (p.w+1)):=TA.le sR (a6 _ _ fun(e9:z=gb)=>by rw[←e9,Nx]at bx;cases bx);refine dR Tryz.underlying158 De rfl rfl uW.cY.rows (dD _ _ _ _ _ _) rfl (BZ _ _ _) (by omega) (by omega) ?_;intro v8 H8 kL;obtain⟨A8,c8,rfl⟩:=kL.own.form
   rw[show iT (G.on (z::G.top)).rg (p.w+1)++cG [Value.slice (some ⟨z,0,none⟩) (p.w+1) c5]=iT (G.rg ++ [(z,c5)]) (p.w+1)from aa2]at kL;obtain⟨fJ,ix,E3⟩:=uW.more (G:=G) hq.gt nW TB kL
   have fJ:=fJ.CE fun i' fX j' hj'=>show dL p i' j'=(if i'=i then dL p i else dL p i') j' by split <;> simp_all
   have ix:=(hl.trans akl).trans (sR.trans ix);refine ab 3 rfl (aU ah rfl rfl rfl ?_);obtain⟨ti,ak,al⟩:=Kq;refine lW (g:=g) (o:=0) (.inl rfl) rfl E3 rfl (by show 0+1≤3;omega) ak al rfl rfl rfl rfl ?_;refine ab 1 rfl (aw (aj [1,3,4,11,12,39,40,41] rfl ?_));refine aB rfl (aG rfl rfl ⟨by omega,by omega⟩ (ab 1 rfl (aw ?_)))
   have e8:wid p (i+1)=p.w+1:=by unfold wid;rw[if_neg (by omega)]
   exact⟨i+1,_,by omega,ar,fJ,ix,by omega⟩
 ·
  have aT:p.lp.m≤i:=by simpa using hb
  obtain rfl:i=p.lp.m:=by omega
  rw[akc];have xF:=MN (P:=qZ) (e:=163) (sz:=2) hq.cY.ne;refine aV (aj [1,3,4,11,12] rfl ?_);refine ag (ab 1 rfl (ae [1,3,4,11,12,20] ?_));refine ao (ag (ab 3 rfl (ae [3,4,11,12,20,79,80,81] ?_)));refine aF (fZ (fun(j:Nat)(w:Value)(xs:List Value)=>c.length-j) (fun(j:Nat)(w:Value)(xs:List Value)=>put (put (put (put (put (put (put (put (emp) 3 (.val (.int .i64 (p.u:Int)))) 4 (.val (.pointer (some ⟨g4,0,none⟩)))) 11 (.val (.pointer (some ⟨g,0,none⟩)))) 12 (.val (.int .i64 ((p.w+1:Nat):Int)))) 20 (.val (w))) 79 (.val (.slice Ac c.length cc))) 80 (.val (.int .i64 (c.length:Int)))) 81 (.val (.int .i64 (j:Int)))) (fun(j:Nat)(w:Value)(xs:List Value) H'=>gS G.gs H3 qZ 163 2 H' w (aK (fn c) j) xs∧j≤c.length) 0 _ _ (⟨xF,Nat.zero_le _⟩) ar ?_);rintro j w xs H5 ⟨hX,hj⟩;obtain⟨A5,c5,e5⟩:=hX.form;rw[bg]at e5;subst e5;have Jn:=hl.trans hX.base;refine ag (ab 1 rfl (ae [3,4,11,12,20,79,80,81,82] ?_));refine ao (aC rfl (fun hb=> ?_) (fun hb=> ?_))
  ·
   have TC:j<c.length:=by simpa using hb
   obtain⟨vs,_,Tv,CC⟩:=tI.get (show c[j]? = some (fn c j) by rw[List.getElem?_eq_getElem TC,kT (List.getElem?_eq_getElem TC)]);obtain⟨t,rfl,Tx⟩:=bN.rc Tv;refine aA (aj [3,4,11,12,20,79,80,81] rfl ?_);refine ao (aF (ag (ck (vs:=[.bool t.f,.slice t.A1 t.m1 t.c1,.slice t.A2 t.m2 t.c2]) ah rfl rfl rfl rfl (nT.le (dW.trans (Jn.trans (bE _ _)))) rfl (by decide) (by rw[Int.toNat_natCast];exact CC) (by omega) (by omega) fun _=> ?_)));refine bt bY rfl ?_;obtain⟨ti,ak,al⟩:=aY;refine aH (.inl ⟨rfl,rfl⟩) rfl rfl rfl ak al rfl rfl rfl (ae [3,4,11,12,20,22,79,80,81] ?_);refine ag (ab 1 rfl (aE rfl rfl (hX.call (aaa (N:=N) (Tx.le (dW.trans Jn)) hN)) ?_));rintro _ H6 iH;have Jo:=hX.kV zN iH fun _ _ h=>h.1;obtain⟨⟨_,n6,d6,b6,rfl,Eh⟩,_⟩:=iH;refine ab 3 rfl (bt fO rfl ?_);obtain⟨ti,ak,al⟩:=eh;refine aH (.inl ⟨rfl,rfl⟩) rfl rfl rfl ak al rfl rfl rfl (ab 1 rfl (ae [3,4,11,12,20,23,24,79,80,81] ?_));refine ao (ag (ab 2 rfl (ae [3,4,11,12,20,23,79,80,81,91] ?_)));refine aC rfl (fun hb=> ?_) (fun hb=> ?_)
   ·
    skip
    refine ag (ab 3 rfl (ae [8,9,10] ?_));refine aD ⟨.inr rfl,_,.tmp rfl (.tmp rfl (.tmp rfl (.nil))),?_⟩;exact⟨0,.slice none 0 0,false,rfl,dW.trans (hl.trans (Jo.base.trans (bE _ _))),fun h9=>by cases h9⟩
   have wc:=Eh (by simpa using hb);refine aA (aj [3,4,11,12,20,23,79,80,81] rfl ?_);refine aB rfl (ab 2 rfl (cW Tryz.underlying161 fO rfl rfl rfl rfl rfl rfl rfl ?_));intro gb bx;have Jp:=Jo.ins zN (whole (cG [.agg #[.int .i64 n6,.int .i64 d6]]) 163) bx;refine dR Tryz.underlying161 fO rfl rfl Jp.own (dD _ _ _ _ _ _) rfl aa3 (by rw[bg];omega) (by rw[bg];omega) ?_;intro W9 H7 uj;have Tz:=Jp.append zN (j:=[fn c j]) (by simp) uj (iP (show qZ _ [_,_] _ from wc) rfl);refine ab 1 rfl (aw (aj [3,4,11,12,20,79,80,81] rfl ?_));refine aB rfl (aG rfl rfl ⟨by omega,by omega⟩ (ab 1 rfl (aw ?_)));exact⟨j+1,_,_,by omega,ar,by rw[xg];exact Tz,by omega⟩
  have TC:c.length≤j:=by simpa using hb
  obtain rfl:j=c.length:=by omega
  have Jb:=hX.sl zN;rw[akd]at Jb;have ep:QV false H5 g G p.lp.m (p.w+1) p.lp.m (dL p) p.unit:=⟨hq.cY.kept ⟨hX.out,hX.same⟩,hq.gt,(hX.same g hq.mem).trans hq.st⟩;have fI:=hl.trans hX.out;clear hX;refine aV (aj [3,4,11,12,20] rfl ?_);refine ag (ab 1 rfl (gF Tryz.underlying161 fO rfl rfl rfl (by omega) (by omega) (by omega) (by omega) ?_));intro z Jm;rw[Int.toNat_natCast]
  have nW:z≠g:=fun e9=>by rw[e9,ep.st]at Jm;cases Jm
  obtain⟨zR,CF,dh,fV⟩:∃zR CF,G.bv = .slice zR p.lp.m CF∧∀t H',ct vK H' (G.on t) p.lp.m (p.w+1) p.lp.m (dL p) p.unit→∀i,i<p.lp.m→Rd H' zR (eL p.unit p.lp.m):=by
   rcases ep.cY.basis with ⟨h1,h2,h3⟩ | ⟨gb,cb,sz,h1,h2,h3⟩
   ·exact⟨none,0,by rw[h3,h1],fun _ _ _ i hi=>by omega⟩
   ·
    refine⟨_,cb,h2,fun t H' h' i hi=> ?_⟩
    rcases h'.basis with ⟨k1,k2,k3⟩ | ⟨Cw,M6,eS,k1,k2,k3⟩
    ·omega
    ·
     have k1:G.bb = [Cw]:=k1;rw[h1]at k1;cases k1;exact dS k3
  obtain⟨DU,Tf⟩:=ep.cY.apart (e:=⟨cg [.int .i64 0,.int .i64 0] ((p.w+1)*2),(p.w+1)*2,163,true⟩) Jm;have TD:QY false (rem H5 G.gs) (ins H5 z ⟨cg [.int .i64 0,.int .i64 0] ((p.w+1)*2),(p.w+1)*2,163,true⟩) g G p.lp.m (p.w+1) p.lp.m (dL p) p.unit z (fun _=>0) 0:=⟨⟨DU,List.mem_cons_of_mem _ ep.gt,by rw[a6 _ _ (Ne.symm nW)];exact ep.st⟩,⟨_,bD _ _ _,Ta⟩,nW,by rw[Tf];exact .refl _⟩
  generalize ins H5 z ⟨cg [.int .i64 0,.int .i64 0] ((p.w+1)*2),(p.w+1)*2,163,true⟩=H6 at *
  refine ab 1 rfl (ae [3,4,11,12,20,25] ?_);refine ao (ag (ab 3 rfl (ae [3,4,11,12,20,25,100,101] ?_)));refine aF (fZ (fun(k:Nat)(f:Nat→Rat)(o1:Bool)=>p.w+1-k) (fun(k:Nat)(f:Nat→Rat)(o1:Bool)=>put (put (put (put (put (put (put (put (emp) 3 (.val (.int .i64 (p.u:Int)))) 4 (.val (.pointer (some ⟨g4,0,none⟩)))) 11 (.val (.pointer (some ⟨g,0,none⟩)))) 12 (.val (.int .i64 ((p.w+1:Nat):Int)))) 20 (.val (.slice A5 c.length c5))) 25 (.val (.slice (some ⟨z,0,none⟩) (p.w+1) (p.w+1)))) 100 (.val (.int .i64 ((p.w+1:Nat):Int)))) 101 (.val (.int .i64 (k:Int)))) (fun(k:Nat)(f:Nat→Rat)(o1:Bool) H'=>QY o1 (rem H5 G.gs) H' g G p.lp.m (p.w+1) p.lp.m (dL p) p.unit z f k∧(o1=false→∀j,j<k→f j=q3 p (dL p) j)∧k≤p.w+1) 0 (fun _=>0) false (⟨TD,fun _ j hj=>absurd hj (Nat.not_lt_zero _),Nat.zero_le _⟩) ar ?_);rintro k f o1 H7 ⟨hY,hf,hk⟩;obtain⟨zs,qt,sB⟩:=hY.row;have Da:=Nn sB hk;refine ag (ab 1 rfl (ae [3,4,11,12,20,25,100,101,102] ?_));refine ao (aC rfl (fun hb=> ?_) (fun hb=> ?_))
  ·
   have fm:k<p.w+1:=by simp at hb;omega
   have uV:=hY.put (o':=o1) ((Kept.refl _ _).iD _) hY.q.st (S8 (f:=bV f k 0) (akb sB fun j hj=>pz (by omega)) fm (by rw[qX];exact EN));refine aA (aj [3,4,11,12,20,25,100,101] rfl ?_);refine ao (aF (ag (ab 2 rfl (ae [3,4,11,12,20,25,26,100,101] ?_))));refine ag (ab 2 rfl (dy ah rfl fO rfl rfl ?_));obtain⟨ti,ak,al⟩:=eh;refine cQ (.inl rfl) ah rfl rfl rfl (by omega) (by omega) (qt) rfl (by show 0+(p.w+1)*2≤zs.length;omega) ak al (fun _=>rfl) rfl rfl rfl fun _=> ?_;refine ae [3,4,11,12,20,25,26,100,101] ?_;rw[EY,Int.toNat_natCast];refine ag (ab 2 rfl (aU ah rfl rfl rfl (aS ah rfl rfl rfl (show cell _ _=some (.slice zR p.lp.m CF)from by rw[←dh];exact uV.q.mR) ?_)));refine ab 2 rfl (ae [3,4,11,12,20,25,26,100,101,112,113] ?_);refine aF (fZ (fun(i:Nat)(f2:Nat→Rat)(o2:Bool)=>p.lp.m-i) (fun(i:Nat)(f2:Nat→Rat)(o2:Bool)=>put (put (put (put (put (put (put (put (put (put (put (emp) 3 (.val (.int .i64 (p.u:Int)))) 4 (.val (.pointer (some ⟨g4,0,none⟩)))) 11 (.val (.pointer (some ⟨g,0,none⟩)))) 12 (.val (.int .i64 ((p.w+1:Nat):Int)))) 20 (.val (.slice A5 c.length c5))) 25 (.val (.slice (some ⟨z,0,none⟩) (p.w+1) (p.w+1)))) 26 (.val (.int .i64 (k:Int)))) 100 (.val (.int .i64 ((p.w+1:Nat):Int)))) 101 (.val (.int .i64 (k:Int)))) 112 (.val (.int .i64 (p.lp.m:Int)))) 113 (.val (.int .i64 (i:Int)))) (fun(i:Nat)(f2:Nat→Rat)(o2:Bool) H'=>QY o2 (rem H5 G.gs) H' g G p.lp.m (p.w+1) p.lp.m (dL p) p.unit z f2 (k+1)∧(o2=false→(∀j,j<k→f2 j=q3 p (dL p) j)∧f2 k=ra p (dL p) k i)∧i≤p.lp.m) 0 (bV f k 0) o1 (⟨uV,fun h9=>⟨fun j hj=>by rw[pz (by omega)];exact hf h9 j hj,by rw[qX,aaY]⟩,Nat.zero_le _⟩) ar ?_)
   rintro i f2 o2 H8 ⟨hV,hF,hi⟩;obtain⟨ws,sN,nN⟩:=hV.row;have pQ:=Nn nN (show k+1≤p.w+1 by omega);refine ag (ab 1 rfl (ae [3,4,11,12,20,25,26,100,101,112,113,114] ?_));refine ao (aC rfl (fun hb=> ?_) (fun hb=> ?_))
   ·
    have aT:i<p.lp.m:=by simpa using hb
    have xZ:=fV _ _ hV.q.cY i aT;refine aA (aj [3,4,11,12,20,25,26,100,101,112,113] rfl ?_);refine ao (aF (ag (ab 2 rfl (ae [3,4,11,12,20,25,26,27,100,101,112,113] ?_))));refine kE (fun(b0:Bool)=>put (put (put (put (put (put (put (put (put (put (put (put (put (emp) 3 (.val (.int .i64 (p.u:Int)))) 4 (.val (.pointer (some ⟨g4,0,none⟩)))) 11 (.val (.pointer (some ⟨g,0,none⟩)))) 12 (.val (.int .i64 ((p.w+1:Nat):Int)))) 20 (.val (.slice A5 c.length c5))) 25 (.val (.slice (some ⟨z,0,none⟩) (p.w+1) (p.w+1)))) 26 (.val (.int .i64 (k:Int)))) 27 (.val (.int .i64 (i:Int)))) 100 (.val (.int .i64 ((p.w+1:Nat):Int)))) 101 (.val (.int .i64 (k:Int)))) 112 (.val (.int .i64 (p.lp.m:Int)))) 113 (.val (.int .i64 (i:Int)))) 135 (.val (.bool b0))) (fun(b0:Bool) H'=>H'=H8∧(b0=true↔p.u≤p.unit i∧(k<p.u∨k=p.w))) ?_ ?_
    ·
     by_cases h1:p.u≤p.unit i
     ·
      skip
      by_cases h2:k<p.u
      ·
       skip
       refine aB rfl (ab 2 rfl (aU ah rfl rfl rfl (aS ah rfl rfl rfl (show cell _ _=some (.slice zR p.lp.m CF)from by rw[←dh];exact hV.q.mR) ?_)));refine ab 1 rfl (aQ ah rfl rfl rfl rfl rfl (xZ) (by rw[Int.toNat_natCast];exact gI aT) (by omega) (by omega) fun _=> ?_);refine ab 1 rfl (aI true rfl rfl (rH (by omega)) (ab 3 rfl (aI true rfl rfl (jK (by omega)) (ab 7 rfl (aw ?_)))));exact⟨_,ar,rfl,by simp[h1,h2]⟩
      skip
      by_cases h3:k=p.w
      ·
       skip
       refine aB rfl (ab 2 rfl (aU ah rfl rfl rfl (aS ah rfl rfl rfl (show cell _ _=some (.slice zR p.lp.m CF)from by rw[←dh];exact hV.q.mR) ?_)));refine ab 1 rfl (aQ ah rfl rfl rfl rfl rfl (xZ) (by rw[Int.toNat_natCast];exact gI aT) (by omega) (by omega) fun _=> ?_);refine ab 1 rfl (aI true rfl rfl (rH (by omega)) (ab 3 rfl (aI false rfl rfl (ik (by omega)) (ab 3 rfl (cV rfl rfl ⟨by omega,by omega⟩ (aI true rfl rfl (jY (by omega)) (ab 2 rfl (aw ?_))))))));exact⟨_,ar,rfl,by simp[h1,h3]⟩
      skip
      refine aB rfl (ab 2 rfl (aU ah rfl rfl rfl (aS ah rfl rfl rfl (show cell _ _=some (.slice zR p.lp.m CF)from by rw[←dh];exact hV.q.mR) ?_)));refine ab 1 rfl (aQ ah rfl rfl rfl rfl rfl (xZ) (by rw[Int.toNat_natCast];exact gI aT) (by omega) (by omega) fun _=> ?_);refine ab 1 rfl (aI true rfl rfl (rH (by omega)) (ab 3 rfl (aI false rfl rfl (ik (by omega)) (ab 3 rfl (cV rfl rfl ⟨by omega,by omega⟩ (aI false rfl rfl (ln (by omega)) (ab 2 rfl (aw ?_))))))));exact⟨_,ar,rfl,by simp[h1,h2,h3]⟩
     skip
     refine aB rfl (ab 2 rfl (aU ah rfl rfl rfl (aS ah rfl rfl rfl (show cell _ _=some (.slice zR p.lp.m CF)from by rw[←dh];exact hV.q.mR) ?_)));refine ab 1 rfl (aQ ah rfl rfl rfl rfl rfl (xZ) (by rw[Int.toNat_natCast];exact gI aT) (by omega) (by omega) fun _=> ?_);refine ab 1 rfl (aI false rfl rfl (AK (by omega)) (ab 11 rfl (aw ?_)));exact⟨_,ar,rfl,by simp[h1]⟩
    rintro b0 H9 ⟨e9,iJ⟩;rw[e9];clear e9 H9;refine aC rfl (fun hb=> ?_) (fun hb=> ?_)
    ·
     have TE:=iJ.1 (by simpa using hb);obtain⟨pi,cS⟩:=ep.cY.get aT;obtain⟨xs8,qV,anC,rb⟩:=hV.q.rk;obtain⟨xi8,si8,TF,TH⟩:=hV.q.row (G:=G.on _) cS;obtain⟨n5,d5,C8,mM⟩:=aj9 nN (Nat.lt_succ_self k) (show k+1≤p.w+1 by omega);obtain⟨n6,d6,wc,qJ,_⟩:=mS TH fm;have bh:=IP g H8;refine eu (.cO (kW g H8)) [0,1,2,3,4,5,6,7,8,9,10,11,12,13,14,15,16,17,18,19] follows (iz [0,0,0,0,0,24,56,0,128,384,896,0,3968,8064,0,32640,65408,131068,262143,524287] (by kernel_rfl)) ?_;refine eN bh rfl (eN bh rfl (eN bh rfl (eN bh rfl (eN bh rfl (Cs bh ah rfl rfl rfl rfl (zF sN nW) rfl (by decide) (by rw[Int.toNat_natCast];exact mM) (by omega) (by omega) fun _=> ?_)))));refine eN bh rfl (l7 bh rfl (l8 bh ah rfl rfl rfl (ka bh ah rfl rfl rfl (hV.q.k0) (eN bh rfl (Cr bh ah rfl rfl rfl rfl rfl (qV) (by rw[Int.toNat_natCast];exact rb i pi cS) (by omega) (by omega) fun _=> ?_)))));refine eN bh rfl (Cs bh ah rfl rfl rfl rfl (zF TF (hV.q.xK (G:=G.on _) cS)) rfl (by decide) (by rw[Int.toNat_natCast];exact qJ) (by omega) (by omega) fun _=> ?_);refine Ct rfl rfl (SE hV.q.mem hV.q.st C8 wc) (fun v H9 oe=>by obtain⟨k1,_,_,_,_,_,k2,_⟩:=oe;exact hV.q.fM k1 k2) ?_
     rintro v9 H9 ⟨x6,vs9,o9,q9,rfl,aa5,E3,fJ⟩;obtain⟨n9,d9,rfl,_⟩:=id aa5;have bh:=hV.q.fM x6 E3;have akm:=(x6.same z QZ.mU nW).trans sN;have x8:=hV.put x6 E3 (aka nN fm aa5);obtain⟨ti,ak,al⟩:=eh;refine MQ bh ah rfl rfl rfl (by omega) (by omega) (akm) rfl (by show (p.w+1)*2≤ws.length;omega) ak al (fun _=>rfl) rfl rfl rfl fun _=> ?_;refine aw (aj [3,4,11,12,20,25,26,100,101,112,113] rfl ?_);refine aB rfl (aG rfl rfl ⟨by omega,by omega⟩ (ab 1 rfl (aw ?_)));exact⟨i+1,bV f2 k q9,o9,by omega,ar,x8,fun h9=>⟨fun j hj=>by rw[pz (by omega)];exact(hF (fJ h9).1).1 j hj,by rw[qX,(fJ h9).2,(hF (fJ h9).1).2,aaZ TE]⟩,by omega⟩
    have TI:¬(p.u≤p.unit i∧(k<p.u∨k=p.w)):=fun h9=>by have:=iJ.2 h9;simp[this]at hb
    refine aA (aj [3,4,11,12,20,25,26,100,101,112,113] rfl ?_);refine aB rfl (aG rfl rfl ⟨by omega,by omega⟩ (ab 1 rfl (aw ?_)));exact⟨i+1,f2,o2,by omega,ar,hV,fun h9=>⟨(hF h9).1,by rw[(hF h9).2,aa0 TI]⟩,by omega⟩
   have aT:p.lp.m≤i:=by simpa using hb
   obtain rfl:i=p.lp.m:=by omega
   rw[aa1]at hF;refine aV (aj [3,4,11,12,20,25,100,101] rfl ?_);refine aB rfl (aG rfl rfl ⟨by omega,by omega⟩ (ab 1 rfl (aw ?_)))
   exact⟨k+1,f2,o2,by omega,ar,hV,fun h9 j hj=>by
    by_cases ej:j=k
    ·subst ej;exact(hF h9).2
    ·exact(hF h9).1 j (by omega),by omega⟩
  have fm:p.w+1≤k:=by simp at hb;omega
  obtain rfl:k=p.w+1:=by omega
  have hzE:=S9 sB;have TA:py vK (rem H7 (G.on (z::G.top)).gs) H7 z (aK f (p.w+1)):=⟨_,_,qt,hzE⟩;refine aV (aj [3,4,11,12,20,25] rfl ?_);refine ag (ab 3 rfl (aU ah rfl rfl rfl (aS ah rfl rfl rfl (hY.q.iR) (ab 1 rfl (cW Tryz.underlying158 De rfl rfl rfl rfl rfl rfl rfl ?_)))));intro gb bx;obtain⟨uW,sR⟩:=hY.q.fresh (e:=whole [.slice (some ⟨z,0,none⟩) (p.w+1) (p.w+1)] 161) bx;have TB:py vK (rem (ins H7 gb (whole [.slice (some ⟨z,0,none⟩) (p.w+1) (p.w+1)] 161)) (G.on (z::G.top)).gs) (ins H7 gb (whole [.slice (some ⟨z,0,none⟩) (p.w+1) (p.w+1)] 161)) z (aK f (p.w+1)):=TA.le sR (a6 _ _ fun(e9:z=gb)=>by rw[←e9,qt]at bx;cases bx);refine dR Tryz.underlying158 De rfl rfl uW.cY.rows (dD _ _ _ _ _ _) rfl (BZ _ _ _) (by omega) (by omega) ?_;intro v8 H8 kL;obtain⟨A8,c8,rfl⟩:=kL.own.form;rw[show iT (G.on (z::G.top)).rg (p.w+1)++cG [Value.slice (some ⟨z,0,none⟩) (p.w+1) (p.w+1)]=iT (G.rg ++ [(z,p.w+1)]) (p.w+1)from aa2]at kL;obtain⟨fJ,ix,E3⟩:=uW.more (G:=G) hq.gt nW TB kL;have ix:=hY.le.trans (sR.trans ix);obtain⟨M9,ya⟩:∃M9,M9=(fun i=>if i=p.lp.m then f else dL p i):=⟨_,rfl⟩;rw[←ya]at fJ;obtain⟨G9,ku⟩:∃G9,G9=G.more G.top z (p.w+1) A8 c8 p.lp.m:=⟨_,rfl⟩
  rw[←ku]at fJ ix
  have gQ:Na o1 o1 (ml p) M9 p.unit p.lp.m (p.w+1) (if o1 then none else some (xV M9 p.unit p.lp.m p.w)):=by
   cases o1 with
   | true=>rfl
   | false=>
    refine⟨rfl,rfl,aaG a8 (fun i hi j hj=>by rw[ya];show (if i=p.lp.m then f else dL p i) j=_;rw[if_neg (by omega)]) (fun j hj=> ?_),Np⟩
    have e7:q3 p M9 j=q3 p (dL p) j:=by
     unfold q3
     split
     ·
      congr 1
      refine eK fun i hi=> ?_;rw[ya]
      show (if _ then(if i=p.lp.m then f else dL p i) j else 0)=_
      rw[if_neg (show ¬i=p.lp.m by omega)]
     ·rfl
    rw[e7,←hf rfl j (by omega),ya]
    show (if p.lp.m=p.lp.m then f else _) j=_
    rw[if_pos rfl]
  have akn:∀T,(if o1 then none else some (xV M9 p.unit p.lp.m p.w))=some T→Acc (aq.Step p.u) T:=fun T hT=>by
   cases o1 with
   | true=>cases hT
   | false=>cases hT;exact gQ.2.2.1.acc
  have TJ:∀i,i<p.lp.m→p.unit i<p.w+1:=fun i hi=>Nat.lt_succ_of_lt (nX p hi);refine ab 1 rfl (aU ah rfl rfl rfl ?_);obtain⟨ti,ak,al⟩:=Kq;refine lW (g:=g) (o:=0) (.inl rfl) rfl E3 rfl (by show 0+1≤3;omega) ak al rfl rfl rfl rfl ?_;refine ae [3,4,11,12,20] ?_;refine ag (ab 2 rfl (aE rfl rfl (aaw fJ (by omega) (by omega) (by omega) (fun T r s=>ml.step) gQ akn TJ) ?_));rintro _ vt ⟨E4,Ny,o10,TK,rfl,oh,EE,ako,TM⟩;have zS:=ix.trans EE;refine ae [3,4,11,12,20] ?_;refine ao (ag (ab 2 rfl (aU ah rfl rfl rfl (aS ah rfl rfl rfl (oh.SJ) (ae [3,4,11,12,20,173] ?_)))));refine aC rfl (fun hb=> ?_) (fun hb=> ?_)
  ·
   skip
   refine ag (ab 3 rfl (ae [8,9,10] ?_));refine aD ⟨.inr rfl,_,.tmp rfl (.tmp rfl (.tmp rfl (.nil))),?_⟩;exact⟨0,.slice none 0 0,false,rfl,dW.trans (fI.trans (zS.trans (bE _ _))),fun h9=>by cases h9⟩
  have hb:o10=false:=by simpa using hb
  subst hb;obtain⟨_,T,hT,iU,pV,re⟩:=ako rfl
  have Jq:∀j,j<p.u→0≤T.c j:=fun j hj=>by
   cases TK with
   | true=>rw[←iU.ec j (by omega)];exact pV rfl j hj
   | false=>
    obtain⟨s,k1,k2,k3⟩:=re rfl;exact(hT.aaE k1 (by rw[←iU.ec s (by omega)];exact k2) fun i hi=>by rw[iU.em]at hi;rw[←iU.eA i hi s (by omega)];exact k3 i hi).elim
  obtain⟨pm,sL⟩:=oh.cY.get (Nat.lt_succ_self p.lp.m);obtain⟨xm,sm,Cy,Cz⟩:=oh.row sL;obtain⟨anD,HW,aa6,zT⟩:=oh.rk;obtain⟨nm,dm,hfm,th,i1,i2,i3,i4,tj⟩:=mS Cz (show p.w<p.w+1 by omega);refine aA (aj [3,4,11,12,20] rfl ?_);refine ao (bO .bL [0,1,2,3,4,5,6,7,8,9,10,11,12,13,14,15,16,17] follows (iz [0,1,3,7,0,16,48,112,240,496,1023,2047,0,4096,16383,32767,65535,131071] (by kernel_rfl)) ?_);refine ab 2 rfl (aU ah rfl rfl rfl (aS ah rfl rfl rfl (oh.iR) (ab 2 rfl (aU ah rfl rfl rfl (aS ah rfl rfl rfl (oh.iR) (ab 1 rfl (cV rfl rfl ⟨by omega,by omega⟩ (aQ ah rfl rfl rfl rfl rfl (aa6) (by rw[show (((p.lp.m+1:Nat):Int)-1).toNat=p.lp.m by omega];exact zT _ pm sL) (by omega) (by omega) fun _=> ?_))))))));refine ab 1 rfl (cV rfl rfl ⟨by omega,by omega⟩ (px ah rfl rfl rfl rfl rfl rfl rfl (dS Cy) (by rw[show (((p.w+1:Nat):Int)-1).toNat=p.w by omega];exact th 0 _ rfl) (by omega) (by omega) fun _ _=> ?_));refine ab 1 rfl (ae [3,4,11,12,20,191] ?_);refine aC rfl (fun hb=> ?_) (fun hb=> ?_)
  ·
   have hb:nm≠0:=by simpa using hb
   have CG:p.lp.rQ:=hT.inf a8 Jq (by rw[←iU.ec _ (Nat.lt_succ_self _),tj];exact fun h9=>hb ((uc i3).1 h9));refine ag (ab 3 rfl (ae [8,9,10] ?_));refine aD ⟨.inr rfl,_,.tmp rfl (.tmp rfl (.tmp rfl (.nil))),?_⟩;exact⟨2,.slice none 0 0,true,rfl,dW.trans (fI.trans (zS.trans (bE _ _))),fun _=> .inr ⟨by decide,.inr (.inl ⟨rfl,CG,rfl⟩)⟩⟩
  have hb:nm=0:=by simpa using hb
  have TN:iV p 0 T:=hT.clean Jq (by rw[←iU.ec _ (Nat.lt_succ_self _),tj];exact(uc i3).2 hb);obtain⟨ks,IB,Cv,R8,anE⟩:=oh.less;refine aA (aj [3,4,11,12,20] rfl ?_);refine bO .gD [0,1,2,3,4,5,6,7,8,9,10,11,12,13,14] follows (by kernel_rfl) ?_;refine ab 3 rfl (aU ah rfl rfl rfl (aS ah rfl rfl rfl (oh.iR) (ab 2 rfl (aU ah rfl rfl rfl (aS ah rfl rfl rfl (oh.iR) (ab 1 rfl (cV rfl rfl ⟨by omega,by omega⟩ ?_)))))));rw[show ((p.lp.m+1:Nat):Int)-1=((p.lp.m:Nat):Int) by omega];refine tk ah rfl rfl (.inl ⟨rfl,rfl⟩) (.inr ⟨_,_,rfl,rfl⟩) (by omega) (by omega) ?_;rw[AM,Nat.sub_zero,Nat.sub_zero];refine ab 1 rfl (aU ah rfl rfl rfl ?_);obtain⟨ti,ak,al⟩:=Kq;refine lW (g:=g) (o:=0) (.inr rfl) rfl oh.st rfl (by show 0+1≤3;omega) ak al rfl rfl rfl rfl ?_;refine ae [3,4,11,12,20] ?_;refine SF IB ?_;have aa7:=zS.trans R8;clear IB Cz hfm th Cy aa6 zT HW;obtain⟨ic,akp⟩:∃ic,ic=G9.less p.lp.m:=⟨_,rfl⟩;rw[←akp]at Cv aa7;refine ao ?_;obtain⟨Nz,NA,r8,BG⟩:=Cv.sQ;refine ag (ab 2 rfl (aU ah rfl rfl rfl (aS ah rfl rfl rfl (show cell _ _=some (.slice Nz p.lp.m NA)from by rw[←r8];exact Cv.mR) ?_)))
  refine ab 2 rfl (ae [3,4,11,12,20,210,211] ?_);refine aF (oD (fun(i:Nat)(M1:Nat→Nat→Rat)(B1:Nat→Nat)(o1:Bool)=>p.lp.m-i) (fun(i:Nat)(M1:Nat→Nat→Rat)(B1:Nat→Nat)(o1:Bool)=>put (put (put (put (put (put (put (emp) 3 (.val (.int .i64 (p.u:Int)))) 4 (.val (.pointer (some ⟨g4,0,none⟩)))) 11 (.val (.pointer (some ⟨g,0,none⟩)))) 12 (.val (.int .i64 ((p.w+1:Nat):Int)))) 20 (.val (.slice A5 c.length c5))) 210 (.val (.int .i64 (p.lp.m:Int)))) 211 (.val (.int .i64 (i:Int)))) (fun(i:Nat)(M1:Nat→Nat→Rat)(B1:Nat→Nat)(o1:Bool) H'=>QV o1 H' g ic p.lp.m (p.w+1) p.lp.m M1 B1∧Heap.le (rem H5 G.gs) (rem H' ic.gs)∧(∀q,q<p.lp.m→B1 q<p.w+1)∧(o1=false→∃T,iV p i T∧gT M1 B1 T p.lp.m (p.w+1))∧i≤p.lp.m) 0 E4 Ny false (⟨Cv,aa7,TM,fun _=>⟨T,TN,iU⟩,Nat.zero_le _⟩) ar ?_);rintro i M1 B1 o1 dK ⟨vx,nE,TO,aa8,hi⟩;refine ag (ab 1 rfl (ae [3,4,11,12,20,210,211,212] ?_));refine ao (aC rfl (fun hb=> ?_) (fun hb=> ?_))
  ·
   have aT:i<p.lp.m:=by simpa using hb
   obtain⟨pi,cS⟩:=vx.cY.get aT
   have TP:o1=false→(∃T,iV p i T∧gT M1 B1 T p.lp.m (p.w+1)∧p.u≤B1 i∧∀j,j<0→M1 i j=0)∨(B1 i<p.u∧∃T,iV p (i+1) T∧gT M1 B1 T p.lp.m (p.w+1)):=fun h9=>by
    obtain⟨T,k1,k2⟩:=aa8 h9
    by_cases hu:B1 i<p.u
    ·exact .inr ⟨hu,T,k1.skip (by rw[k2.em];exact aT) (.inl (by rw[←k2.eB i aT];exact hu)),k2⟩
    ·exact .inl ⟨T,k1,k2,by omega,fun j hj=>absurd hj (Nat.not_lt_zero _)⟩
   refine aA (aj [3,4,11,12,20,210,211] rfl ?_);refine ao (aF (ag (ab 2 rfl (ae [3,4,11,12,20,28,210,211] ?_))));refine ag (ab 1 rfl (ae [3,4,11,12,20,28,29,210,211] ?_));refine aF (oD (fun(k:Nat)(M2:Nat→Nat→Rat)(B2:Nat→Nat)(o2:Bool)=>p.u-k) (fun(k:Nat)(M2:Nat→Nat→Rat)(B2:Nat→Nat)(o2:Bool)=>put (put (put (put (put (put (put (put (put (emp) 3 (.val (.int .i64 (p.u:Int)))) 4 (.val (.pointer (some ⟨g4,0,none⟩)))) 11 (.val (.pointer (some ⟨g,0,none⟩)))) 12 (.val (.int .i64 ((p.w+1:Nat):Int)))) 20 (.val (.slice A5 c.length c5))) 28 (.val (.int .i64 (i:Int)))) 29 (.val (.int .i64 (k:Int)))) 210 (.val (.int .i64 (p.lp.m:Int)))) 211 (.val (.int .i64 (i:Int)))) (fun(k:Nat)(M2:Nat→Nat→Rat)(B2:Nat→Nat)(o2:Bool) H'=>QV o2 H' g ic p.lp.m (p.w+1) p.lp.m M2 B2∧Heap.le (rem H5 G.gs) (rem H' ic.gs)∧(∀q,q<p.lp.m→B2 q<p.w+1)∧(o2=false→(∃T,iV p i T∧gT M2 B2 T p.lp.m (p.w+1)∧p.u≤B2 i∧∀j,j<k→M2 i j=0)∨(B2 i<p.u∧∃T,iV p (i+1) T∧gT M2 B2 T p.lp.m (p.w+1)))∧k≤p.u) 0 M1 B1 o1 (⟨vx,nE,TO,TP,Nat.zero_le _⟩) ar ?_);rintro k M2 B2 o2 ma ⟨sq,p3,zU,CH,Ly⟩;have aa9:=BG sq i aT;refine ao ?_
   by_cases CA:k<p.u
   ·
    skip
    by_cases h2u:p.u≤B2 i
    ·
     obtain⟨ajj,xD,aan,IY⟩:=sq.rk;obtain⟨MX,aao,zH,ug⟩:=sq.row cS;obtain⟨nk,dk,NB,hck,j1,j2,j3,j4,jN⟩:=mS ug (show k<p.w+1 by omega);refine ag (ab 2 rfl (aI true rfl rfl (jK (by omega)) (ab 3 rfl (aU ah rfl rfl rfl (aS ah rfl rfl rfl (show cell _ _=some (.slice Nz p.lp.m NA)from by rw[←r8];exact sq.mR) ?_)))));refine ab 1 rfl (aQ ah rfl rfl rfl rfl rfl (aa9) (by rw[Int.toNat_natCast];exact gI aT) (by omega) (by omega) fun _=> ?_);refine ab 1 rfl (aI true rfl rfl (rH (by omega)) (ab 1 rfl (ae [3,4,11,12,20,28,29,210,211,227] ?_)));refine dN rfl (aA (aj [3,4,11,12,20,28,29,210,211] rfl ?_));refine ao (aF (ag (ab 2 rfl (aU ah rfl rfl rfl (aS ah rfl rfl rfl (sq.iR) (ab 1 rfl (aQ ah rfl rfl rfl rfl rfl (aan) (by rw[Int.toNat_natCast];exact IY i pi cS) (by omega) (by omega) fun _=> ?_)))))));refine ab 1 rfl (px ah rfl rfl rfl rfl rfl rfl rfl (dS zH) (by rw[Int.toNat_natCast];exact hck 0 _ rfl) (by omega) (by omega) fun _ _=> ?_);refine ab 1 rfl (ae [3,4,11,12,20,28,29,210,211,241] ?_)
     refine aC rfl (fun hb=> ?_) (fun hb=> ?_)
     ·
      have hb:nk≠0:=by simpa using hb
      have aZ:M2 i k≠0:=by rw[jN];exact fun h9=>hb ((uc j3).1 h9)
      refine aB rfl (ab 3 rfl (aE rfl rfl (aai sq aT aT (show k<p.w+1 by omega) aZ (by omega) (by omega)) ?_));rintro v14 qb ⟨M3,o3,MY,akq,zO⟩;refine aw (aj [3,4,11,12,20,28,29,210,211] rfl ?_);refine aB rfl (ab 1 rfl (aG rfl rfl ⟨by omega,by omega⟩ (ab 1 rfl (aw ?_))));obtain⟨M5,Jr⟩:∃M5:Nat→Nat→Rat,M5=fun q=>if q=p.lp.m then mj M2 i k p.lp.m else M3 q:=⟨_,rfl⟩
      have Js:∀q,q<p.lp.m→M5 q=M3 q:=fun q hq=>by rw[Jr];show (if q=p.lp.m then _ else M3 q)=_;rw[if_neg (by omega)]
      exact⟨k+1,M5,_,o3,by omega,ar,MY.CE fun q hq j _=>by rw[Js q hq],p3.trans zO,fun q hq=>by
       show (if q=i then k else B2 q)<_
       split
       ·omega
       ·exact zU q hq,fun h9=>by
       obtain⟨h8,rZ⟩:=akq h9
       rcases CH h8 with ⟨T,k1,k2,k3,k4⟩ | ⟨k1,_⟩
       ·
        refine .inr ⟨by rw[if_pos rfl];exact CA,T.pivot i k,k1.pivot (by rw[k2.em];exact aT) (by rw[←k2.eB i aT];exact k3) CA (by rw[←k2.eA i aT k (by omega)];exact aZ),k2.pivot aT (by omega) fun q hq j hj=> ?_⟩
        by_cases e:q=p.lp.m
        ·
         subst e;rw[Jr]
         show (if p.lp.m=p.lp.m then _ else M3 _) j=_
         rw[if_pos rfl]
        ·rw[Js q (by omega)];exact rZ q (by omega) j hj
       ·omega,by omega⟩
     have hb:nk=0:=by simpa using hb
     refine aA (aj [3,4,11,12,20,28,29,210,211] rfl ?_);refine aB rfl (ab 1 rfl (aG rfl rfl ⟨by omega,by omega⟩ (ab 1 rfl (aw ?_))))
     exact⟨k+1,M2,B2,o2,by omega,ar,sq,p3,zU,fun h9=>by
      rcases CH h9 with ⟨T,k1,k2,k3,k4⟩ | h8
      ·
       refine .inl ⟨T,k1,k2,k3,fun j hj=> ?_⟩
       by_cases e:j=k
       ·subst e;rw[jN];exact(uc j3).2 hb
       ·exact k4 j (by omega)
      ·exact .inr h8,by omega⟩
    have hD:o2=false→∃T,iV p (i+1) T∧gT M2 B2 T p.lp.m (p.w+1):=fun h9=>by
     rcases CH h9 with ⟨T,_,_,k3,_⟩ | h8
     ·omega
     ·exact h8.2
    refine ag (ab 2 rfl (aI true rfl rfl (jK (by omega)) (ab 3 rfl (aU ah rfl rfl rfl (aS ah rfl rfl rfl (show cell _ _=some (.slice Nz p.lp.m NA)from by rw[←r8];exact sq.mR) ?_)))));refine ab 1 rfl (aQ ah rfl rfl rfl rfl rfl (aa9) (by rw[Int.toNat_natCast];exact gI aT) (by omega) (by omega) fun _=> ?_);refine ab 1 rfl (aI false rfl rfl (AK (by omega)) (ab 1 rfl (ae [3,4,11,12,20,28,29,210,211,227] ?_)));refine dU rfl (aV (aj [3,4,11,12,20,210,211] rfl ?_));refine aB rfl (aG rfl rfl ⟨by omega,by omega⟩ (ab 1 rfl (aw ?_)));exact⟨i+1,M2,B2,o2,by omega,ar,sq,p3,zU,hD,by omega⟩
   have hD:o2=false→∃T,iV p (i+1) T∧gT M2 B2 T p.lp.m (p.w+1):=fun h9=>by
    rcases CH h9 with ⟨T,k1,k2,k3,k4⟩ | h8
    ·exact⟨T,k1.skip (by rw[k2.em];exact aT) (.inr fun j hj=>by rw[←k2.eA i aT j (by omega)];exact k4 j (by omega)),k2⟩
    ·exact h8.2
   refine ag (ab 2 rfl (aI false rfl rfl (ik (by omega)) (ab 11 rfl (ae [3,4,11,12,20,28,29,210,211,227] ?_))));refine dU rfl (aV (aj [3,4,11,12,20,210,211] rfl ?_));refine aB rfl (aG rfl rfl ⟨by omega,by omega⟩ (ab 1 rfl (aw ?_)));exact⟨i+1,M2,B2,o2,by omega,ar,sq,p3,zU,hD,by omega⟩
  have aT:p.lp.m≤i:=by simpa using hb
  obtain rfl:i=p.lp.m:=by omega
  have fG:eH N (rem dK ic.gs) (.agg #[fv,gB]) p:=hp.le (dW.trans (fI.trans nE));have akr:=Jb.le zN nE;have oA:p.lp.n≤400:=aa4;refine aV (aj [3,4,11,12,20] rfl ?_);have bh:=IP g dK;refine bO (.cO (kW g dK)) [0,1,2,3,4,5,6,7,8,9,10,11,12,13,14] follows (by kernel_rfl) ?_;refine eN bh rfl (eN bh rfl (l7 bh rfl (l8 bh ah rfl rfl rfl (ka bh ah rfl rfl rfl (vx.k0) (eN bh rfl (IQ bh ah rfl rfl rfl (((BC.le (fI.trans nE)).kx vx.mem).at) (eN bh rfl (eN bh rfl (Ct rfl rfl (ajC vx fG akr fi (by omega) TO (by omega) (by omega)) (fun v H9 oe=>by obtain⟨_,_,_,_,k1,_⟩:=oe;exact vx.fM k1.iD k1.q.st) ?_)))))))));rintro SV mP ⟨z5,f5,o5,rfl,qe,mV⟩;have bh:=vx.fM qe.iD qe.q.st;obtain⟨z5s,aba,aks⟩:=qe.row;have akt:py vK (rem mP (ic.on (z5::ic.top)).gs) mP z5 (aK f5 (p.w+1)):=⟨_,_,aba,aks⟩;refine Ed Tryz.underlying158 De rfl rfl ?_;intro gb bx;obtain⟨uW,sR⟩:=qe.q.fresh (e:=whole [.slice (some ⟨z5,0,none⟩) (p.w+1) (p.w+1)] 161) bx;have aku:py vK (rem (ins mP gb (whole [.slice (some ⟨z5,0,none⟩) (p.w+1) (p.w+1)] 161)) (ic.on (z5::ic.top)).gs) (ins mP gb (whole [.slice (some ⟨z5,0,none⟩) (p.w+1) (p.w+1)] 161)) z5 (aK f5 (p.w+1)):=akt.le sR (a6 _ _ fun(e9:z5=gb)=>by rw[←e9,aba]at bx;cases bx)
  have bh:(Mode.cO (kW g dK)).fM (ins mP gb (whole [.slice (some ⟨z5,0,none⟩) (p.w+1) (p.w+1)] 161)):=fun ad u hu=>cN (Heap.bB _ bx) (bh ad u hu);refine Ee Tryz.underlying158 De rfl rfl uW.cY.rows (dD _ _ _ _ _ _) rfl (BZ _ _ _) (by omega) (by omega) bh ?_;intro v16 E5 E6;have bh:(Mode.cO (kW g dK)).fM E5:=fun ad u hu=>cN E6.le (bh ad u hu);obtain⟨TQ,TR,rfl⟩:=E6.own.form;obtain⟨MC,vH,akv⟩:=uW.more (G:=ic) vx.gt qe.ne aku (Nw E6);have vH:=(nE.trans qe.le).trans (sR.trans vH);obtain⟨vQ,CI⟩:∃vQ,vQ=(fun i=>if i=p.lp.m then f5 else M1 i):=⟨_,rfl⟩;rw[←CI]at MC
  have EL:Na o5 o5 (og p c) vQ B1 p.lp.m (p.w+1) (if o5 then none else some (xV vQ B1 p.lp.m p.w)):=by
   cases o5 with
   | true=>rfl
   | false=>
    obtain⟨k1,k2⟩:=mV rfl;obtain⟨T5,k3,k4⟩:=aa8 k1;refine⟨rfl,rfl,aaI k3 k4 (fun i hi j hj=>by rw[CI];show (if i=p.lp.m then f5 else M1 i) j=_;rw[if_neg (by omega)]) (fun j hj=> ?_),Np⟩;rw[←k2 j (by omega),CI]
    show (if p.lp.m=p.lp.m then f5 else _) j=_
    rw[if_pos rfl]
  have akw:∀T,(if o5 then none else some (xV vQ B1 p.lp.m p.w))=some T→Acc (aq.Step p.u) T:=fun T hT=>by
   cases o5 with
   | true=>cases hT
   | false=>cases hT;exact EL.2.2.1.acc
  refine l7 bh rfl (l8 bh ah rfl rfl rfl ?_);obtain⟨ti,ak,al⟩:=Kq;refine BI (g:=g) (o:=0) rfl akv rfl (by show 0+1≤3;omega) ak al rfl rfl rfl rfl ?_;refine ae [3,4,11,12] ?_;refine ag (ab 2 rfl (aE rfl rfl (aaw MC (by omega) (by omega) (by omega) (fun T r s=>og.step) EL akw TO) ?_));rintro _ TS ⟨TT,TU,o18,Jt,rfl,Gh,TV,akx,NC⟩;have yb:=vH.trans TV;refine ab 1 rfl (ae [4,11,12,30] ?_);refine ao (ag (ab 2 rfl (aU ah rfl rfl rfl (aS ah rfl rfl rfl (Gh.SJ) (ae [4,11,12,30,267] ?_)))));refine aC rfl (fun hb=> ?_) (fun hb=> ?_)
  ·
   skip
   refine ag (ab 3 rfl (ae [8,9,10] ?_));refine aD ⟨.inr rfl,_,.tmp rfl (.tmp rfl (.tmp rfl (.nil))),?_⟩;exact⟨0,.slice none 0 0,false,rfl,dW.trans (fI.trans (yb.trans (bE _ _))),fun h9=>by cases h9⟩
  have hb:o18=false:=by simpa using hb
  subst hb;obtain⟨_,T2,CJ,rf,CL,Ju⟩:=akx rfl;have Pf:eH N (rem TS _) (.agg #[fv,gB]) p:=hp.le (dW.trans (fI.trans yb));refine aA (aj [4,11,12,30] rfl ?_);refine ag (ab 1 rfl (ae [4,8,11,12,30] ?_));refine ao (ag (ab 1 rfl (ae [4,8,11,12,268] ?_)));refine aC rfl (fun hb=> ?_) (fun hb=> ?_)
  ·
   have hb:Jt=true:=by simpa using hb
   have TW:∀j,j<p.u→0≤T2.c j:=fun j hj=>by rw[←rf.ec j (by omega)];exact CL hb j hj
   refine aB rfl (ab 1 rfl (aw (aj [4,8,11,12] rfl ?_)));refine ag (ab 2 rfl (yA ah rfl rfl rfl (((BC.le (fI.trans yb)).le (bE _ _)).at) (ab 1 rfl (aE rfl rfl (aaC Gh Pf (by omega) (by omega) NC (by omega) (by omega)) ?_))));rintro TX Sd ⟨Jv,Jw,abb⟩;refine ab 3 rfl (ae [8,9,10] ?_);refine aD ⟨.inr rfl,_,.tmp rfl (.tmp rfl (.tmp rfl (.nil))),?_⟩;exact⟨1,TX,true,rfl,dW.trans (fI.trans ((yb.trans (bE _ _)).trans Jv)),fun _=> .inl ⟨rfl,_,Jw,bg _ _,CJ.opt a8 fi TW rf,fun q hq=>by obtain⟨j,hj,rfl⟩:=Cf hq;exact abb j hj⟩⟩
  have hb:Jt=false:=by simpa using hb
  obtain⟨s2,k1,k2,k3⟩:=Ju hb;refine aA (aj [4,8,11,12] rfl ?_);refine ag (ab 2 rfl (yA ah rfl rfl rfl (((BC.le (fI.trans yb)).le (bE _ _)).at) (ab 1 rfl (aE rfl rfl (aaC Gh Pf (by omega) (by omega) NC (by omega) (by omega)) ?_))));rintro TX Sd ⟨Jv,Jw,abb⟩;refine ab 3 rfl (ae [8,9,10] ?_);refine aD ⟨.inr rfl,_,.tmp rfl (.tmp rfl (.tmp rfl (.nil))),?_⟩;exact⟨3,TX,true,rfl,dW.trans (fI.trans ((yb.trans (bE _ _)).trans Jv)),fun _=> .inr ⟨by decide,CJ.unb a8 fi k1 (by rw[←rf.ec s2 (by omega)];exact k2) fun i hi=>by rw[rf.em]at hi;rw[←rf.eA i hi s2 (by omega)];exact k3 i hi⟩⟩
end Go.au
namespace Go.au
open Go.Proofs Num Lp
abbrev ND(C:Heap→List Value→Prop):Prop:=∀K K' xs,Heap.le K K'→C K xs→C K' xs
abbrev lL(W:Nat)(f:Nat→Rat)(k:Nat)(K:Heap)(xs:List Value):Prop:=bC (ib bZ K) 3 xs (fill (aK f W) k)
abbrev kX(W:Nat)(f:Nat→Rat)(K:Heap)(xs:List Value):Prop:=bC (bZ K) 3 xs (aK f W)
theorem TY{W:Nat}{f:Nat→Rat}{k:Nat}:ND (lL W f k):=fun _ _ _ hl h=>h.mono fun vs a=>ib.up dY _ _ vs a hl
theorem zV{W:Nat}{f:Nat→Rat}:ND (kX W f):=fun _ _ _ hl h=>h.mono fun vs a=>dY _ _ vs a hl
theorem Jy{W k:Nat}{K:Heap}{xs:List Value}{f:Nat→Rat}(h:lL W f k K xs)(hk:k≤W):xs.length=W*3:=by
 have:=h.len
 rwa [ny (by rw[bg];exact hk),bg]at this
theorem yc{W:Nat}{K:Heap}{xs:List Value}{f:Nat→Rat}(h:kX W f K xs):xs.length=W*3:=by
 have:=h.len
 rwa [bg]at this
theorem NF{W k:Nat}{K:Heap}{xs vs:List Value}{f:Nat→Rat}(h:lL W f k K xs)(hk:k<W)(hv:bZ K vs (f k)):lL W f (k+1) K (aL xs (k*3) vs):=by
 show bC _ _ _ _
 rw[←y7 (dJ hk)]
 exact h.set (by rw[ny (by rw[bg];omega),bg];exact hk) (show ib bZ _ vs (some (f k))from hv) (iF.len _ _ _ hv)
theorem NG{W:Nat}{K:Heap}{xs:List Value}{f:Nat→Rat}(h:lL W f W K xs):kX W f K xs:=by
 refine DQ (P:=bZ) (H:=K) ?_
 rw[bg];exact h
theorem NH{W:Nat}{K:Heap}{f:Nat→Rat}:lL W f 0 K (cg [.bool false,.slice none 0 0,.slice none 0 0] (W*3)):=by
 have:=Bu (P:=bZ) (H:=K) (zs:=[.bool false,.slice none 0 0,.slice none 0 0]) (sz:=3) rfl (aK f W)
 rwa [bg]at this
theorem oj{xs vs:List Value}{s e k:Nat}:({(⟨xs,s,e,true⟩:Ent)with xs:=aL xs (0+k*3) vs}:Ent)=⟨aL xs (k*3) vs,s,e,true⟩:=by rw[Nat.zero_add]
structure SZ(C:Heap→List Value→Prop)(K H:Heap)(G:GG)(R W m:Nat)(M:Nat→Nat→Rat)(B:Nat→Nat)(u:Value)(l:List Nat)(z:Nat):Prop where
 q:ct iF H (G.on (z::(az u++G.top))) R W m M B
 own:bW H u 3 1 l.length (vL l)
 row:∃xs,H z=some ⟨xs,W*3,31,true⟩∧C (rem H (G.on (z::(az u++G.top))).gs) xs
 le:Heap.le K (rem H (G.on (z::(az u++G.top))).gs)
section
variable {C C':Heap→List Value→Prop} {K K' H H':Heap} {G:GG} {R W m z:Nat} {M M':Nat→Nat→Rat} {B:Nat→Nat} {u:Value} {l:List Nat} {f:Nat→Rat} {xs:List Value}
theorem SZ.mU:z∈(G.on (z::(az u++G.top))).gs:=List.mem_append_left _ (List.mem_cons_self ..)
theorem SZ.xL{q:Nat}(h:q∈az u):q∈(G.on (z::(az u++G.top))).gs:=List.mem_append_left _ (List.mem_cons_of_mem _ (List.mem_append_left _ h))
theorem SZ.Tc(h:SZ C K H G R W m M B u l z):∀q,q∈az u→q≠z:=fun q hq e=>by
 have h1:z∉(az u++G.top)++G.low:=(List.nodup_cons.1 (show (z::((az u++G.top)++G.low)).Nodup from h.q.nd)).1
 exact h1 (List.mem_append_left _ (List.mem_append_left _ (e▸hq)))
theorem GU.start(h:GU K H G R W m M B u l)(hz:H z=none)(hC:C (rem H (G.on (az u++G.top)).gs) xs):SZ C K (ins H z ⟨xs,W*3,31,true⟩) G R W m M B u l z:=by
 obtain⟨h1,h2⟩:=h.q.apart (e:=⟨xs,W*3,31,true⟩) hz
 refine⟨h1,h.own.same fun q hq=>a6 _ _ fun e=> ?_,⟨xs,bD _ _ _,?_⟩,?_⟩
 ·exact h.q.ne q (QU.xL (cM.2 hq)) (by rw[e];exact hz)
 ·show C (rem _ ((G.on (az u++G.top)).on (z::(G.on (az u++G.top)).top)).gs) xs
  rw[h2];exact hC
 ·show Heap.le K (rem _ ((G.on (az u++G.top)).on (z::(G.on (az u++G.top)).top)).gs)
  rw[h2];exact h.le
theorem SZ.kept(hC:ND C)(h:SZ C K H G R W m M B u l z)(k:Kept (G.on (z::(az u++G.top))).gs H H'):SZ C K H' G R W m M B u l z:=by
 obtain⟨xs,h3,h4⟩:=h.row
 exact⟨h.q.kept k,h.own.same fun q hq=>k.same q (SZ.xL (cM.2 hq)),⟨xs,(k.same z SZ.mU).trans h3,hC _ _ _ k.le h4⟩,h.le.trans k.le⟩
theorem SZ.set(h:SZ C K H G R W m M B u l z)(k:Kept (G.on (z::(az u++G.top))).gs H H')(hC:C' (rem H' (G.on (z::(az u++G.top))).gs) xs):SZ C' K (ins H' z ⟨xs,W*3,31,true⟩) G R W m M B u l z:=by
 have h1:=h.q.kept k
 have hm:z∈(G.on (z::(az u++G.top))).gs:=SZ.mU
 have hT:fS (G.on (z::(az u++G.top))).gs z H' (ins H' z ⟨xs,W*3,31,true⟩):=((Kept.refl _ _).iD z).ins hm _
 refine⟨h1.Cp (List.mem_cons_self ..) hT (by rw[bD];simp),h.own.same fun q hq=> ?_,⟨xs,bD _ _ _,by rw[cF _ hm];exact hC⟩,by rw[cF _ hm];exact h.le.trans k.le⟩
 rw[a6 _ _ (h.Tc q (cM.2 hq))];exact k.same q (SZ.xL (cM.2 hq))
theorem SZ.vR{j:Nat}{vs:List Value}{q:Rat}(h:SZ (kX W f) K H G R W m M B u l z)(k:Kept (G.on (z::(az u++G.top))).gs H H')(hD:kX W f (rem H (G.on (z::(az u++G.top))).gs) xs)(hj:j<W)(hv:bZ (rem H' (G.on (z::(az u++G.top))).gs) vs q):SZ (kX W (bV f j q)) K (ins H' z ⟨aL xs (j*3) vs,W*3,31,true⟩) G R W m M B u l z:=
 h.set k (aaK (zV _ _ _ k.le hD) hj hv)
theorem SZ.fresh(hC:ND C)(h:SZ C K H G R W m M B u l z){k:Nat}{e:Ent}(hk:H k=none):SZ C K (ins H k e) G R W m M B u l z:=by
 obtain⟨_,h2⟩:=h.q.fresh (e:=e) hk
 exact h.kept hC ⟨h2,fun q hq=>a6 _ _ fun(e':q=k)=>h.q.ne q hq (by rw[e'];exact hk)⟩
theorem SZ.od(h:SZ C K H G R W m M B u l z):SZ C (rem H (G.on (z::(az u++G.top))).gs) H G R W m M B u l z:=⟨h.q,h.own,h.row,.refl _⟩
theorem SZ.down(h:SZ C K H G R W m M B u l z)(hl:Heap.le K' K):SZ C K' H G R W m M B u l z:=⟨h.q,h.own,h.row,hl.trans h.le⟩
theorem SZ.to(h:SZ C K H G R W m M B u l z)(hC:∀xs,C (rem H (G.on (z::(az u++G.top))).gs) xs→C' (rem H (G.on (z::(az u++G.top))).gs) xs):SZ C' K H G R W m M B u l z:=by
 obtain⟨xs,h3,h4⟩:=h.row
 exact⟨h.q,h.own,⟨xs,h3,hC xs h4⟩,h.le⟩
theorem SZ.zne(h:SZ C K H G R W m M B u l z){q:Nat}(hq:q∈G.gs):q≠z:=fun e=>by
 have h1:z∉(az u++G.top)++G.low:=(List.nodup_cons.1 (show (z::((az u++G.top)++G.low)).Nodup from h.q.nd)).1
 rw[←e,List.append_assoc]at h1
 exact h1 (List.mem_append_right _ hq)
theorem SZ.more{c lJ:Nat}{A':Option Addr}(h:SZ (kX W f) K H G R W m M B u l z)(ha:App H (.slice G.Ar R G.cr) 26 1 (R+1) (iT (G.rg ++ [(z,c)]) W) (.slice A' (R+1) lJ) H'):
  GU K H' (G.more G.top z c A' lJ R) (R+1) W m (fun i=>if i=R then f else M i) B u l:=by
 obtain⟨xs,h3,h4⟩:=h.row
 obtain⟨h1,h2⟩:=h.q.more (t:=az u++G.top) ⟨xs,_,h3,h4⟩ ha
 refine⟨h1,h.own.same fun q hq=> ?_,h.le.trans h2⟩
 obtain⟨en,he⟩:=h.own.block hq
 rw[he]
 refine ha.same q en he fun e=> ?_
 have hb:q∈G.hb:=by
  have:=h.q.mh
  have e2:G.hb=az (.slice G.Ar R G.cr):=this
  rw[e2];exact cM.2 e
 exact GG.ub h.q.nd (q:=q) (r:=q) (List.mem_cons_of_mem _ (List.mem_append_left _ (cM.2 hq))) (GG.Cn (G:=G.on (z::(az u++G.top))) hb) rfl
theorem GU.CE(h:GU K H G R W m M B u l)(hM:∀i,i<R→∀j,j<W→M' i j=M i j):GU K H G R W m M' B u l:=⟨h.q.CE hM,h.own,h.le⟩
theorem ct.gu(h:ct iF H G R W m M B):GU (rem H G.gs) H G R W m M B (.slice none 0 0) []:=⟨h,lk _ _ _,.refl _⟩
end
def g0:GG:=⟨[],[],[],.slice none 0 0,[],none,0⟩
theorem aky{H:Heap}{W:Nat}{M:Nat→Nat→Rat}{B:Nat→Nat}:GU H H g0 0 W 0 M B (.slice none 0 0) []:=by
 refine⟨⟨List.nodup_nil,fun q hq=>(by cases hq),rfl,rfl,lk _ _ _,fun i p hp=>(by cases hp),.inl ⟨rfl,rfl,rfl⟩⟩,lk _ _ _,?_⟩
 show Heap.le H (rem H [])
 rw[tt];exact .refl _
def GG.fin(G:GG)(u:Value):GG:={G with bb:=az u,bv:=u}
theorem GU.fin{K H:Heap}{G:GG}{R W m:Nat}{M:Nat→Nat→Rat}{B B':Nat→Nat}{u:Value}(h:GU K H G R W 0 M B' u ((List.range m).map B))(hb:G.bb = []):ct iF H (G.fin u) R W m M B∧Heap.le K (rem H (G.fin u).gs):=by
 have jM:(G.on (az u++G.top)).gs=(az u++G.top)++(G.hb++(G.bb++G.rg.map (·.1))):=rfl
 have I9:(G.fin u).gs=G.top++(G.hb++(az u++G.rg.map (·.1))):=rfl
 rw[hb,List.nil_append]at jM
 have sL:((az u++G.top)++(G.hb++G.rg.map (·.1))).Perm (G.top++(G.hb++(az u++G.rg.map (·.1)))):=by
  refine(List.Perm.append_right _ List.perm_append_comm).trans ?_
  rw[List.append_assoc]
  refine List.Perm.append_left _ ?_
  rw[←List.append_assoc,←List.append_assoc]
  exact List.Perm.append_right _ List.perm_append_comm
 have er:rem H (G.fin u).gs=rem H (G.on (az u++G.top)).gs:=aaJ fun q=>by rw[jM,I9];exact(sL.mem_iff).symm
 have dT:=h.q.nd
 rw[jM]at dT
 refine⟨⟨by rw[I9];exact sL.nodup_iff.1 dT,fun q hq=>h.q.top q (List.mem_append_right _ hq),h.q.iv,h.q.mh,h.q.rows,fun i p hp=> ?_,?_⟩,by rw[er];exact h.le⟩
 ·rw[er];exact h.q.row i p hp
 ·have h1:=h.own
  rw[List.length_map,List.length_range]at h1
  rcases h1.2 with ⟨h2,h3⟩ | ⟨g,cap,h2,h3,_⟩
  ·exact .inl ⟨h3,by show az u = [];rw[h2];rfl,h2⟩
  ·exact .inr ⟨g,cap,_,by show az u = [g];rw[h2];rfl,h2,by rw[h3,vL,List.map_map];rfl⟩
section
variable {p:Prg}
abbrev _root_.Lp.Prg.xf(p:Prg)(j:Nat):Nat:=aW p.lp.free j-j
abbrev _root_.Lp.Prg.sf(p:Prg)(i:Nat):Nat:=bA p.lp.rel p.c1 i-p.c1
abbrev _root_.Lp.Prg.af(p:Prg)(i:Nat):Nat:=aX p.lp.rel p.aJ p.u i-p.u
theorem akz{j:Nat}:p.xf (j+1)=p.xf j+(if p.lp.free j then 1 else 0):=by
 have h1:aW p.lp.free (j+1)=aW p.lp.free j+1+(if p.lp.free j then 1 else 0):=rfl
 have h2:=zK (fr:=p.lp.free) j
 show aW p.lp.free (j+1)-(j+1)=aW p.lp.free j-j+_
 omega
theorem akA(rel:Nat→Int)(c i:Nat):c≤bA rel c i:=by
 induction i with
 | zero=>exact Nat.le_refl _
 | succ i ih=>exact Nat.le_trans ih (Nat.le_add_right _ _)
theorem akB(rel sg:Nat→Int)(u i:Nat):u≤aX rel sg u i:=by
 induction i with
 | zero=>exact Nat.le_refl _
 | succ i ih=>exact Nat.le_trans ih (Nat.le_add_right _ _)
theorem akC{i:Nat}:p.sf (i+1)=p.sf i+(if p.lp.rel i=2 then 0 else 1):=by
 have h1:bA p.lp.rel p.c1 (i+1)=bA p.lp.rel p.c1 i+(if p.lp.rel i=2 then 0 else 1):=rfl
 have h2:=akA p.lp.rel p.c1 i
 show bA p.lp.rel p.c1 (i+1)-p.c1=bA p.lp.rel p.c1 i-p.c1+_
 omega
theorem akD{i:Nat}:p.af (i+1)=p.af i+(if eY (p.lp.rel i) (p.aJ i)then 0 else 1):=by
 have h1:aX p.lp.rel p.aJ p.u (i+1)=aX p.lp.rel p.aJ p.u i+(if eY (p.lp.rel i) (p.aJ i)then 0 else 1):=rfl
 have h2:=akB p.lp.rel p.aJ p.u i
 show aX p.lp.rel p.aJ p.u (i+1)-p.u=aX p.lp.rel p.aJ p.u i-p.u+_
 omega
theorem abc{i:Nat}{r:List Rat×Int×Rat}(h:p.rows[i]? = some r):(fC r).2.1=kB (p.lp.rel i) (p.aJ i):=by
 have e:=Prg.ly h
 have h1:p.lp.rel i=r.2.1:=by show (p.row i).2.1=_;rw[e]
 have h2:p.lp.b i=r.2.2:=by show (p.row i).2.2=_;rw[e]
 show _=kB (p.lp.rel i) (kJ (p.lp.b i) (p.lp.rel i))
 rw[h1,h2]
 unfold fC
 rcases sw r.2.2 r.2.1 with k | k
 ·rw[if_pos k,k];unfold kB;rw[if_pos rfl]
 ·rw[if_neg (by rw[k];decide),k]
theorem akE{i:Nat}{r:List Rat×Int×Rat}(h:p.rows[i]? = some r):(fC r).2.2=p.lp.b i*(p.aJ i:Rat):=by
 have e:=Prg.ly h
 have h1:p.lp.rel i=r.2.1:=by show (p.row i).2.1=_;rw[e]
 have h2:p.lp.b i=r.2.2:=by show (p.row i).2.2=_;rw[e]
 show _=_*((kJ (p.lp.b i) (p.lp.rel i):Int):Rat)
 rw[h1,h2]
 unfold fC
 rcases sw r.2.2 r.2.1 with k | k
 ·rw[if_pos k,k];exact(Rat.mul_one _).symm
 ·rw[if_neg (by rw[k];decide),k]
  show -r.2.2=r.2.2 * -1
  grind
theorem akF{r:List Rat×Int×Rat}:(fC r).1.length=r.1.length:=by
 unfold fC;split <;> simp
theorem akG{i j:Nat}{r:List Rat×Int×Rat}{q:Rat}(h:p.rows[i]? = some r)(hj:r.1[j]? = some q):(fC r).1[j]? = some (p.lp.a i j*(p.aJ i:Rat)):=by
 have e:=Prg.ly h
 have h1:p.lp.rel i=r.2.1:=by show (p.row i).2.1=_;rw[e]
 have h2:p.lp.b i=r.2.2:=by show (p.row i).2.2=_;rw[e]
 have h3:p.lp.a i j=q:=by show fn (p.row i).1 j=_;rw[e];exact kT hj
 show _=some (_*((kJ (p.lp.b i) (p.lp.rel i):Int):Rat))
 rw[h1,h2,h3]
 unfold fC
 rcases sw r.2.2 r.2.1 with k | k
 ·rw[if_pos k,k,hj]
  show some q=some (q*1)
  rw[Rat.mul_one]
 ·rw[if_neg (by rw[k];decide),k]
  show (r.1.map (fun q=> -q))[j]? = some (q * -1)
  rw[List.getElem?_map,hj]
  show some (-q)=some (q * -1)
  rw[show -q=q * -1 from by grind]
end
end Go.au
