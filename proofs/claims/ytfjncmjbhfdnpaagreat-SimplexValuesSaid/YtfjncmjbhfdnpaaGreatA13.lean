/- Part 13 of the proof: Sl, Val2, Chk1, Dual, Rdual, So, Qq. -/
import Derived.Test.YtfjncmjbhfdnpaaGreatA12
set_option linter.unusedVariables false
namespace Go.ar
open Go.Proofs Num Lp
theorem Y4{q:Rat}:fo q<0↔q<0:=by
 unfold fo;split
 ·simp[*]
 ·split <;> simp_all
theorem Y5{q:Rat}:fo q≤0↔q≤0:=by
 unfold fo;split
 ·exact⟨fun _=>by grind,fun _=>by decide⟩
 ·split
  ·exact⟨fun _=>by grind,fun _=>by decide⟩
  ·exact⟨fun h=>absurd h (by decide),fun h=>by grind⟩
theorem ail{p q:Rat}:vz p q<0↔p<q:=by
 unfold vz;split
 ·simp[*]
 ·split <;> simp_all
theorem aim{p q:Rat}:vz p q=0↔p=q:=by
 unfold vz;split
 ·exact⟨fun h=>absurd h (by decide),fun h=>by grind⟩
 ·split
  ·simp[*]
  ·exact⟨fun h=>absurd h (by decide),fun h=>by grind⟩
structure HC where
 i:Nat
 z:Int
 t:RC
def HD(M:Nat→Nat→Rat)(B:Nat→Nat)(n c:Nat)(K:Heap)(y:HC):Prop:=(y.z = -1∧∀i,i<y.i→M i c≤0)∨∃(r:Nat)(q:Rat),y.z=(r:Int)∧r<y.i∧0<M r c∧bK K y.t.v q∧mb M B n c y.i r q
theorem ain{M:Nat→Nat→Rat}{B:Nat→Nat}{n c:Nat}{K K':Heap}{y:HC}(h:HD M B n c K y)(hl:Heap.le K K')(hk:M y.i c≤0):HD M B n c K' ⟨y.i+1,y.z,y.t⟩:=by
 rcases h with ⟨h1,h2⟩ | ⟨r,q,h1,h2,h3,h4,h5⟩
 ·refine .inl ⟨h1,fun i hi=> ?_⟩
  by_cases e:i=y.i
  ·rw[e];exact hk
  ·exact h2 i (by have:i<y.i+1:=hi;omega)
 ·exact .inr ⟨r,q,h1,Nat.lt_succ_of_lt h2,h3,h4.le hl,YC h5 hk⟩
def SvP(M:Nat→Nat→Rat)(B:Nat→Nat)(n c m:Nat)(z:Int):Prop:=(z = -1∧∀i,i<m→M i c≤0)∨∃r:Nat,z=(r:Int)∧r<m∧0<M r c∧∃q,mb M B n c m r q
def EnP(M:Nat→Nat→Rat)(R u:Nat)(z:Int):Prop:=(z = -1∧∀j,j<u→0≤M R j)∨∃s:Nat,z=(s:Int)∧s<u∧M R s<0∧∀j,j<s→0≤M R j
theorem aio{H:Heap}{G:GG}{R W m N u:Nat}{M:Nat→Nat→Rat}{B:Nat→Nat}(h:bZ iq H G (R+1) W m M B)(hu:u≤W)(hz:∀j,j<u→aG (M R j)≤N)(hN:(N:Int)≤200000000000)(hR:(R:Int)≤1000000)(hW:(W:Int)≤1000000):
 Fn Tryz.prog 142 #[.agg #[.slice G.Ar (R+1) G.cr,G.bv],.int .i64 (u:Int)] H (fun v H'=>∃z,v = .int .i64 z∧Kept G.gs H H'∧EnP M R u z):=by
 obtain⟨pr,cN⟩:=h.get (Nat.lt_succ_self R)
 obtain⟨Ab,cb,cY,ga⟩:=h.rT
 rw[cY]
 obtain⟨Yq,Yr,sC,G6⟩:=h.qC cN;refine aZ (args:=[_,_]) Tryz.func142 rfl rfl Tryz.ntmps142 rfl rfl fun w0=> ?_;refine ag [0,1] rfl ?_;refine ab ?_;refine bS rfl rfl ?_;refine vr 1 ?_;refine aa [1,2] ?_;refine ab ?_;refine vr 5 ?_;refine cP rfl rfl ⟨by omega,by omega⟩ ?_;refine aM ae rfl rfl rfl rfl rfl (h.hd) (by rw[show (((R+1:Nat):Int)-1).toNat=R by omega];exact ke (rg:=G.rg) (W:=_) cN) (by omega) (by omega) fun _=> ?_;refine vr 1 ?_;refine aa [1,5] ?_;refine al ?_;refine ab ?_;refine vr 1 ?_;refine aa [1,5,6] ?_;refine aC ?_;refine fZ (fun(k:Nat)=>u-k) (fun(k:Nat)=>put (put (put (emp) 1 (.val (.int .i64 (u:Int)))) 5 (.val (.slice (some ⟨pr.1,0,none⟩) W pr.2))) 6 (.val (.int .i64 (k:Int)))) (fun(k:Nat) H'=>Kept G.gs H H'∧k≤u∧∀j,j<k→0≤M R j) 0 (⟨.refl _ _,Nat.zero_le _,fun j hj=>absurd hj (Nat.not_lt_zero _)⟩) an ?_;rintro k H1 ⟨fW,JQ,ix⟩;have Oe:=(fW.same _ (GG.kz (GG.gm cN))).trans sC;have h1:=h.kept fW;refine al ?_;refine ab ?_;refine vr 3 ?_;refine aa [1,5,6,17] ?_;refine aB rfl (fun hb=> ?_) (fun hb=> ?_)
 ·
  have Y6:k<u:=by simpa using hb
  obtain⟨t1,wE,iS⟩:=lL G6 (show k<W by omega);have jz:=hz k Y6;refine au ?_;refine ag [1,5,6] rfl ?_;refine al ?_;refine aC ?_;refine ab ?_;refine vr 2 ?_;refine bR (vs:=[.bool t1.f,.slice t1.A1 t1.m1 t1.c1,.slice t1.A2 t1.m2 t1.c2]) ae rfl rfl rfl rfl (dF Oe) rfl (by decide) (by rw[Int.toNat_natCast];exact iS) (by omega) (by omega) fun _=> ?_;refine aw rfl rfl (Fn.kX h1.ne (vX (bK.raw (wE.le fW.le)) (by omega))) ?_;rintro v2 H2 ⟨fA,bh,rfl⟩;refine vr 1 ?_;refine aa [1,5,6,25] ?_;refine aB rfl (fun hb=> ?_) (fun hb=> ?_)
  ·
   have hb:M R k<0:=Y4.1 (by simpa using hb);refine ab ?_;refine vr 2 ?_;refine aa [4] ?_;refine az ⟨.inr rfl,_,.tmp rfl (.nil),?_⟩;exact⟨_,rfl,fW.trans fA,.inr ⟨k,rfl,Y6,hb,ix⟩⟩
  ·
   have hb:¬M R k<0:=fun h9=>by have:=Y4.2 h9;simp at hb;omega
   refine au ?_;refine ag [1,5,6] rfl ?_;refine av rfl ?_;refine vr 1 ?_;refine aD rfl rfl ⟨by omega,by omega⟩ ?_;refine vr 1 ?_;refine aq ?_
   exact⟨k+1,by omega,an,fW.trans fA,by omega,fun j hj=>by
    by_cases ej:j=k
    ·subst ej;grind
    ·exact ix j (by omega)⟩
 ·
  have hb:u≤k:=by simpa using hb
  obtain rfl:k=u:=by omega
  refine aU ?_;refine ag [] rfl ?_;refine ab ?_;refine vr 1 ?_;refine aa [4] ?_;refine az ⟨.inr rfl,_,.tmp rfl (.nil),?_⟩;exact⟨_,rfl,fW,.inl ⟨rfl,ix⟩⟩
theorem aip{H:Heap}{G:GG}{R W m N:Nat}{M:Nat→Nat→Rat}{B:Nat→Nat}{c:Nat}(h:bZ iq H G R W m M B)(QP:m≤R)(hc:c<W)(hz:∀i,i<m→∀j,j<W→aG (M i j)≤N)(hN:(N:Int)≤200000000000)(hR:(R:Int)≤1000000)(hW:(W:Int)≤1000000):
 Fn Tryz.prog 143 #[.agg #[.slice G.Ar (R) G.cr,G.bv],.int .i64 (c:Int)] H (fun v H'=>∃z,v = .int .i64 z∧Kept G.gs H H'∧SvP M B (W-1) c m z):=by
 obtain⟨Ab,cb,cY,ga⟩:=h.rT
 have lP:∀{H':Heap},Kept G.gs H H'→∀i,i<m→Rd H' Ab (ee B m):=fun k i hi=>ga (t:=G.top) (h.kept k) i hi
 rw[cY];refine aZ (args:=[_,_]) Tryz.func143 rfl rfl Tryz.ntmps143 rfl rfl fun w0=> ?_;refine ag [0,1] rfl ?_;refine ab ?_;refine bS rfl rfl ?_;refine vr 1 ?_;refine aa [1,2] ?_;refine ab ?_;refine dS ae rfl cR rfl rfl ?_;refine bt cR rfl ?_;refine vr 1 ?_;obtain⟨ti,aj,ak⟩:=a8;refine aJ (.inl ⟨rfl,rfl⟩) rfl rfl rfl aj ak rfl rfl rfl ?_;refine aa [1,2,5,6] ?_;refine al ?_;refine ab ?_;refine vr 4 ?_;refine aa [1,2,5,6,14,15] ?_;refine aC ?_;refine fZ (fun(y:HC)=>m-y.i) (fun(y:HC)=>put (put (put (put (put (put (emp) 1 (.val (.int .i64 (c:Int)))) 2 (.box [.slice G.Ar R G.cr,.slice Ab m cb])) 5 (.val (.int .i64 y.z))) 6 (.box [.bool y.t.f,.slice y.t.A1 y.t.m1 y.t.c1,.slice y.t.A2 y.t.m2 y.t.c2])) 14 (.val (.int .i64 (m:Int)))) 15 (.val (.int .i64 (y.i:Int)))) (fun(y:HC) H'=>Kept G.gs H H'∧y.i≤m∧HD M B (W-1) c (rem H' G.gs) y) ⟨0,-1,⟨false,none,0,0,none,0,0⟩⟩ (⟨.refl _ _,Nat.zero_le _,.inl ⟨rfl,fun i hi=>absurd hi (Nat.not_lt_zero _)⟩⟩) an ?_;rintro y H2 ⟨fA,hym,hI⟩;have h2:=h.kept fA;refine ab ?_;refine vr 1 ?_;refine aa [1,2,5,6,14,15,16] ?_;refine al ?_;refine aB rfl (fun hb=> ?_) (fun hb=> ?_)
 ·
  have aQ:y.i<m:=by simpa using hb
  obtain⟨pi,cL⟩:=h2.get (show y.i<R by omega);obtain⟨xi,si,rN,wx⟩:=h2.qC cL;obtain⟨t1,wE,iS⟩:=lL wx hc;obtain⟨t2,eS,lS⟩:=lL wx (show W-1<W by omega);have jz:=hz y.i aQ c hc;have j0:=hz y.i aQ (W-1) (by omega);refine au ?_;refine ag [1,2,5,6,14,15] rfl ?_;refine al ?_;refine aC ?_;refine ab ?_;refine vr 2 ?_;refine aa [1,2,5,6,7,14,15] ?_;refine al ?_;refine ab ?_;refine vr 3 ?_;refine aM ae rfl rfl rfl rfl rfl (h2.hd) (by rw[Int.toNat_natCast];exact ke (rg:=G.rg) (W:=_) cL) (by omega) (by omega) fun _=> ?_;refine vr 1 ?_;refine bR (vs:=[.bool t1.f,.slice t1.A1 t1.m1 t1.c1,.slice t1.A2 t1.m2 t1.c2]) ae rfl rfl rfl rfl (dF rN) rfl (by decide) (by rw[Int.toNat_natCast];exact iS) (by omega) (by omega) fun _=> ?_;refine aw rfl rfl (Fn.kX h2.ne (vX (bK.raw wE) (by omega))) ?_;rintro v3 H3 ⟨de,dC,rfl⟩;have h3:=h2.kept de;have GS:=fA.trans de;have Y7:=(de.same _ (GG.kz (GG.gm cL))).trans rN;refine vr 1 ?_;refine aa [1,2,5,6,7,14,15,27] ?_;refine aB rfl (fun hb=> ?_) (fun hb=> ?_)
  ·
   have hb:M y.i c≤0:=Y5.1 (by simpa using hb);refine aU ?_;refine ag [1,2,5,6,14,15] rfl ?_;refine av rfl ?_;refine aD rfl rfl ⟨by omega,by omega⟩ ?_;refine vr 1 ?_;refine aq ?_;exact⟨⟨y.i+1,y.z,y.t⟩,(show m-(y.i+1)<m-y.i by omega),an,GS,(show y.i+1≤m by omega),ain hI de.le hb⟩
  ·
   have fq:0<M y.i c:=by
    have h9:¬M y.i c≤0:=fun h9=>by have:=Y5.2 h9;simp at hb;omega
    grind
   refine au ?_;refine ag [1,2,5,6,7,14,15] rfl ?_;refine bJ .bF [0,1,2,3,4,5,6,7,8,9,10,11,12,13,14,15,16,17,18,19,20,21,22,23,24,25,26,27,28] follows (ib [0,1,0,7,15,0,32,0,224,480,992,2016,4095,8191,0,16384,0,114688,245760,0,1032192,2080768,4194303,8388607,16777215,16777215,0,100663295,268435455] (by kernel_rfl)) ?_;refine vr 3 ?_;refine aM ae rfl rfl rfl rfl rfl (h3.hd) (by rw[Int.toNat_natCast];exact ke (rg:=G.rg) (W:=_) cL) (by omega) (by omega) fun _=> ?_;refine vr 3 ?_;refine aM ae rfl rfl rfl rfl rfl (h3.hd) (by rw[Int.toNat_natCast];exact ke (rg:=G.rg) (W:=_) cL) (by omega) (by omega) fun _=> ?_;refine vr 1 ?_;refine cP rfl rfl ⟨by omega,by omega⟩ ?_;refine bR (vs:=[.bool t2.f,.slice t2.A1 t2.m1 t2.c1,.slice t2.A2 t2.m2 t2.c2]) ae rfl rfl rfl rfl (dF Y7) rfl (by decide) (by rw[show ((W:Int)-1).toNat=W-1 by omega];exact lS) (by omega) (by omega) fun _=> ?_;refine vr 3 ?_;refine aM ae rfl rfl rfl rfl rfl (h3.hd) (by rw[Int.toNat_natCast];exact ke (rg:=G.rg) (W:=_) cL) (by omega) (by omega) fun _=> ?_;refine vr 1 ?_;refine bR (vs:=[.bool t1.f,.slice t1.A1 t1.m1 t1.c1,.slice t1.A2 t1.m2 t1.c2]) ae rfl rfl rfl rfl (dF Y7) rfl (by decide) (by rw[Int.toNat_natCast];exact iS) (by omega) (by omega) fun _=> ?_
   refine aO rfl rfl (Fn.frame h3.ne (OL (N:=N) ((bK.raw (eS.le de.le)).mono (by omega)) ((bK.raw (wE.le de.le)).mono (by omega)) (by omega))) (fun _ _ h=>h.le fun _ _ h=>h.1) ?_;rintro _ H8 yR;have l7:Kept G.gs H3 H8:= .of yR fun v K hp=>hp.1;obtain⟨_,w8,rfl,eL⟩:=yR.post;obtain⟨t8,rfl⟩:=eL.rc;have Y8:=GS.trans l7;have h8:=h.kept Y8;have PX:=CJ (M y.i (W-1)) (M y.i c)
   replace hI:HD M B (W-1) c (rem H8 G.gs) y:=by
    rcases hI with h9 | ⟨r,q,h9,h5,h6,h7,h8⟩
    ·exact .inl h9
    ·exact .inr ⟨r,q,h9,h5,h6,(h7.le de.le).le l7.le,h8⟩
   refine vr 3 ?_;refine bt cR rfl ?_;obtain⟨ti,aj,ak⟩:=a8;refine aJ (.inl ⟨rfl,rfl⟩) rfl rfl rfl aj ak rfl rfl rfl ?_;refine vr 1 ?_;refine aa [1,2,5,6,7,8,14,15] ?_;refine ab ?_;refine vr 1 ?_;refine aa [1,2,5,6,7,8,10,14,15] ?_;refine kC (fun(s:Int)=>put (put (put (put (put (put (put (put (put (emp) 1 (.val (.int .i64 (c:Int)))) 2 (.box [.slice G.Ar R G.cr,.slice Ab m cb])) 5 (.val (.int .i64 y.z))) 6 (.box [.bool y.t.f,.slice y.t.A1 y.t.m1 y.t.c1,.slice y.t.A2 y.t.m2 y.t.c2])) 7 (.val (.int .i64 (y.i:Int)))) 8 (.box [.bool t8.f,.slice t8.A1 t8.m1 t8.c1,.slice t8.A2 t8.m2 t8.c2])) 10 (.val (.int .i64 s))) 14 (.val (.int .i64 (m:Int)))) 15 (.val (.int .i64 (y.i:Int)))) (fun(s:Int) H'=>Kept G.gs H8 H'∧((y.z = -1∧s = -1∧∀i,i<y.i→M i c≤0)∨∃(r:Nat)(q:Rat),y.z=(r:Int)∧r<y.i∧0<M r c∧bK (rem H8 G.gs) y.t.v q∧mb M B (W-1) c y.i r q∧(s<0↔M y.i (W-1)/M y.i c<q)∧(s=0↔M y.i (W-1)/M y.i c=q))) ?_ ?_
   ·
    refine ab ?_;refine vr 2 ?_;refine aa [1,2,5,6,7,8,10,14,15,55] ?_;refine aB rfl (fun hb=> ?_) (fun hb=> ?_)
    ·
     have hb:0≤y.z:=by simpa using hb
     obtain⟨r,q,ez,wy,cN,gp,hL⟩:∃(r:Nat)(q:Rat),y.z=(r:Int)∧r<y.i∧0<M r c∧bK (rem H8 G.gs) y.t.v q∧mb M B (W-1) c y.i r q:=by
      rcases hI with ⟨ez,_⟩ | h9
      ·omega
      ·exact h9
     have hzq:aG q≤2*N:=by
      rw[hL.1];have:=CJ (M r (W-1)) (M r c);have:=hz r (by omega) c hc;have:=hz r (by omega) (W-1) (by omega)
      omega
     refine av rfl ?_;refine vr 2 ?_;refine aw rfl rfl (Fn.kX h8.ne (OK (N:=2*N) ((bK.raw eL).mono (by omega)) ((bK.raw gp).mono (by omega)) (by omega))) ?_;rintro v9 H9 ⟨fM,dX,rfl⟩;refine vr 1 ?_;refine aq ?_;exact⟨_,an,fM,.inr ⟨r,q,ez,wy,cN,gp,hL,ail,aim⟩⟩
    ·
     have hb:y.z<0:=by simpa using hb
     refine au ?_
     skip
     rcases hI with ⟨ez,ix⟩ | ⟨r,q,ez,_⟩
     ·exact⟨_,an,.refl _ _,.inl ⟨ez,rfl,ix⟩⟩
     ·omega
   ·
    rintro s H9 ⟨DA,hs⟩;have fM:=Y8.trans DA;have h9:=h.kept fM;obtain⟨ez,es,ix⟩ | ⟨r,q,ez,wy,cN,gp,hL,iB,Bw⟩:=hs
    ·
     skip
     refine bJ .bF [0,1,2,3,4,5,6,7,8,9,10,11,12,13,14,15,16,17,18] follows (ib [0,1,3,7,15,31,63,127,63,511,1023,63,2111,63,14399,30783,65535,131071,262143] (by kernel_rfl)) ?_;refine vr 1 ?_;refine aA true rfl rfl (iz (by omega)) ?_;refine vr 17 ?_;refine aa [1,2,5,6,7,8,14,15,77] ?_;refine cD rfl ?_;refine dZ .bF [0,1,2,3] follows (by kernel_rfl) ?_;refine vr 3 ?_;obtain⟨ti,aj,ak⟩:=a8;refine aJ (.inl ⟨rfl,rfl⟩) rfl rfl rfl aj ak rfl rfl rfl ?_;refine aq ?_;refine ag [1,2,5,6,14,15] rfl ?_;refine av rfl ?_;refine aD rfl rfl ⟨by omega,by omega⟩ ?_;refine vr 1 ?_;refine aq ?_;exact⟨⟨y.i+1,y.i,t8⟩,(show m-(y.i+1)<m-y.i by omega),an,fM,(show y.i+1≤m by omega),.inr ⟨y.i,_,rfl,Nat.lt_succ_self _,fq,eL.le DA.le,YD ix rfl⟩⟩
    ·
     skip
     by_cases g1:s<0
     ·
      skip
      refine bJ .bF [0,1,2,3,4,5,6,7,8,9,10,11,12,13,14,15,16,17,18] follows (ib [0,1,3,7,15,31,63,127,63,511,1023,63,2111,63,14399,30783,65535,131071,262143] (by kernel_rfl)) ?_;refine vr 1 ?_;refine aA true rfl rfl (iz g1) ?_;refine vr 17 ?_;refine aa [1,2,5,6,7,8,14,15,77] ?_;refine cD rfl ?_;refine dZ .bF [0,1,2,3] follows (by kernel_rfl) ?_;refine vr 3 ?_;obtain⟨ti,aj,ak⟩:=a8;refine aJ (.inl ⟨rfl,rfl⟩) rfl rfl rfl aj ak rfl rfl rfl ?_;refine aq ?_;refine ag [1,2,5,6,14,15] rfl ?_;refine av rfl ?_;refine aD rfl rfl ⟨by omega,by omega⟩ ?_;refine vr 1 ?_;refine aq ?_;exact⟨⟨y.i+1,y.i,t8⟩,(show m-(y.i+1)<m-y.i by omega),an,fM,(show y.i+1≤m by omega),.inr ⟨y.i,_,rfl,Nat.lt_succ_self _,fq,eL.le DA.le,Lb hL rfl (.inl (iB.1 g1))⟩⟩
     ·
      skip
      by_cases g2:s=0
      ·
       skip
       by_cases g3:B y.i<B r
       ·
        skip
        refine bJ .bF [0,1,2,3,4,5,6,7,8,9,10,11,12,13,14,15,16,17,18] follows (ib [0,1,3,7,15,31,63,127,63,511,1023,63,2111,63,14399,30783,65535,131071,262143] (by kernel_rfl)) ?_;refine vr 1 ?_;refine aA false rfl rfl (fQ (by omega)) ?_;refine vr 2 ?_;refine aA true rfl rfl (fk g2) ?_;refine vr 4 ?_;refine aM ae rfl rfl rfl rfl rfl (lP fM y.i aQ) (by rw[Int.toNat_natCast];exact gj aQ) (by omega) (by omega) fun _=> ?_;refine vr 3 ?_;refine aM ae rfl rfl rfl rfl rfl (lP fM y.i aQ) (by rw[ez,Int.toNat_natCast];exact gj (by omega)) (by omega) (by omega) fun _=> ?_;refine aA true rfl rfl (iz (by omega)) ?_;refine vr 2 ?_;refine aa [1,2,5,6,7,8,14,15,77] ?_;refine cD rfl ?_;refine dZ .bF [0,1,2,3] follows (by kernel_rfl) ?_;refine vr 3 ?_;obtain⟨ti,aj,ak⟩:=a8;refine aJ (.inl ⟨rfl,rfl⟩) rfl rfl rfl aj ak rfl rfl rfl ?_;refine aq ?_;refine ag [1,2,5,6,14,15] rfl ?_;refine av rfl ?_;refine aD rfl rfl ⟨by omega,by omega⟩ ?_;refine vr 1 ?_;refine aq ?_;exact⟨⟨y.i+1,y.i,t8⟩,(show m-(y.i+1)<m-y.i by omega),an,fM,(show y.i+1≤m by omega),.inr ⟨y.i,_,rfl,Nat.lt_succ_self _,fq,eL.le DA.le,Lb hL rfl (.inr ⟨Bw.1 g2,g3⟩)⟩⟩
       ·
        skip
        refine bJ .bF [0,1,2,3,4,5,6,7,8,9,10,11,12,13,14,15,16,17,18] follows (ib [0,1,3,7,15,31,63,127,63,511,1023,63,2111,63,14399,30783,65535,131071,262143] (by kernel_rfl)) ?_;refine vr 1 ?_;refine aA false rfl rfl (fQ (by omega)) ?_;refine vr 2 ?_;refine aA true rfl rfl (fk g2) ?_;refine vr 4 ?_;refine aM ae rfl rfl rfl rfl rfl (lP fM y.i aQ) (by rw[Int.toNat_natCast];exact gj aQ) (by omega) (by omega) fun _=> ?_;refine vr 3 ?_;refine aM ae rfl rfl rfl rfl rfl (lP fM y.i aQ) (by rw[ez,Int.toNat_natCast];exact gj (by omega)) (by omega) (by omega) fun _=> ?_;refine aA false rfl rfl (fQ (by omega)) ?_;refine vr 2 ?_;refine aa [1,2,5,6,7,8,14,15,77] ?_;refine cU rfl ?_;refine au ?_;refine ag [1,2,5,6,14,15] rfl ?_;refine av rfl ?_;refine aD rfl rfl ⟨by omega,by omega⟩ ?_;refine vr 1 ?_;refine aq ?_;exact⟨⟨y.i+1,y.z,y.t⟩,(show m-(y.i+1)<m-y.i by omega),an,fM,(show y.i+1≤m by omega),.inr ⟨r,q,ez,Nat.lt_succ_of_lt wy,cN,gp.le DA.le,La hL rfl (.inr ⟨Bw.1 g2,g3⟩)⟩⟩
      ·
       skip
       refine bJ .bF [0,1,2,3,4,5,6,7,8,9,10,11,12,13,14,15,16,17,18] follows (ib [0,1,3,7,15,31,63,127,63,511,1023,63,2111,63,14399,30783,65535,131071,262143] (by kernel_rfl)) ?_;refine vr 1 ?_;refine aA false rfl rfl (fQ (by omega)) ?_;refine vr 2 ?_;refine aA false rfl rfl (gI g2) ?_;refine vr 14 ?_;refine aa [1,2,5,6,7,8,14,15,77] ?_;refine cU rfl ?_;refine au ?_;refine ag [1,2,5,6,14,15] rfl ?_;refine av rfl ?_;refine aD rfl rfl ⟨by omega,by omega⟩ ?_;refine vr 1 ?_;refine aq ?_;exact⟨⟨y.i+1,y.z,y.t⟩,(show m-(y.i+1)<m-y.i by omega),an,fM,(show y.i+1≤m by omega),.inr ⟨r,q,ez,Nat.lt_succ_of_lt wy,cN,gp.le DA.le,La hL rfl (.inl (by have k1:¬M y.i (W-1)/M y.i c<q:=fun k=>g1 (iB.2 k);have k2:¬M y.i (W-1)/M y.i c=q:=fun k=>g2 (Bw.2 k);grind))⟩⟩
 ·
  have aQ:m≤y.i:=by simpa using hb
  have aQ:y.i=m:=by omega
  refine aU ?_;refine ag [5] rfl ?_;refine ab ?_;refine vr 2 ?_;refine aa [4] ?_;refine az ⟨.inr rfl,_,.tmp rfl (.nil),?_⟩;refine⟨y.z,rfl,fA,?_⟩;have h2:=hI
  unfold HD at h2
  rw[aQ]at h2
  rcases h2 with h9 | ⟨r,q,k1,k2,k3,_,k5⟩
  ·exact .inl h9
  ·exact .inr ⟨r,k1,k2,k3,q,k5⟩
theorem Y9{H:Heap}{G:GG}{W m u N:Nat}{M:Nat→Nat→Rat}{B:Nat→Nat}{Φ:ao→Prop}{x:ao}(h:bZ iq H G (m+1) W m M B)(hu:u<W)(hm:(m:Int)≤900000)(hW:(W:Int)≤1000000)(cQ:∀T r s,Φ T→T.ot u r s→Φ (T.pivot r s))(hx:Φ x)(hr:gF M B x m W)(DY:Acc (ao.Step u) x)(hB:∀i,i<m→B i<W)(hz:∀T,Φ T→∀j,j<W→aG (T.c j)≤N∧∀i,i<m→aG (T.A i j)≤N)(hN:(N:Int)≤200000000000):
 Fn Tryz.prog 66 #[.agg #[.slice G.Ar (m+1) G.cr,G.bv],.int .i64 (u:Int)] H (fun v H'=>∃M' B' b T,v = .bool b∧bZ iq H' G (m+1) W m M' B'∧Heap.le (rem H G.gs) (rem H' G.gs)∧Φ T∧gF M' B' T m W∧(∀i,i<m→B' i<W)∧(b=true→∀j,j<u→0≤M' m j)∧(b=false→∃s,s<u∧M' m s<0∧∀i,i<m→M' i s≤0)):=by
 have wF:∀{M1:Nat→Nat→Rat}{B1:Nat→Nat}{T:ao},Φ T→gF M1 B1 T m W→∀i,i<m+1→∀j,j<W→aG (M1 i j)≤N:=fun{M1 B1 T} hT hr i hi j hj=>by
  by_cases e:i=m
  ·rw[e,hr.ec j hj];exact(hz T hT j hj).1
  ·rw[hr.eA i (by omega) j hj];exact(hz T hT j hj).2 i (by omega)
 refine aZ (args:=[_,_]) Tryz.func66 rfl rfl Tryz.ntmps66 rfl rfl fun w0=> ?_;refine ag [0,1] rfl ?_;refine ab ?_;refine bS rfl rfl ?_;refine vr 1 ?_;refine aa [1,2] ?_;refine aC ?_;refine Iu (γ:=ao) (ao.Step u) (fun(y:ao)=>put (put (emp) 1 (.val (.int .i64 (u:Int)))) 2 (.box [.slice G.Ar (m+1) G.cr,G.bv])) (fun(y:ao) H'=>∃M1 B1,bZ iq H' G (m+1) W m M1 B1∧Heap.le (rem H G.gs) (rem H' G.gs)∧Φ y∧gF M1 B1 y m W∧∀i,i<m→B1 i<W) (x) (DY) an (⟨M,B,h,.refl _,hx,hr,hB⟩) ?_;rintro y H1 ⟨M1,B1,h1,fa,so,iI,yL⟩;have jz:=wF so iI;refine aC ?_;refine ab ?_;refine vr 2 ?_;refine aw rfl rfl (aio h1 (by omega) (fun j hj=>jz m (by omega) j (by omega)) hN (by omega) hW) ?_;rintro _ H2 ⟨z,rfl,fA,hE⟩;have h2:=h1.kept fA;refine vr 1 ?_;refine aa [1,2,5] ?_;refine al ?_;refine ab ?_;refine vr 2 ?_;refine aa [1,2,5,11] ?_;refine aB rfl (fun hb=> ?_) (fun hb=> ?_)
 ·
  have hb:z<0:=by simpa using hb
  obtain⟨_,ix⟩:z = -1∧∀j,j<u→0≤M1 m j:=by
   rcases hE with h9 | ⟨s,h9,_⟩
   ·exact h9
   ·omega
  refine ab ?_;refine vr 1 ?_;refine aa [4] ?_;refine az ⟨.inr rfl,_,.tmp rfl (.nil),?_⟩;exact⟨M1,B1,true,y,rfl,h2,fa.trans fA.le,so,iI,yL,fun _=>ix,(fun h9=>by cases h9)⟩
 ·
  have hb:¬z<0:=by simpa using hb
  obtain⟨s,rfl,Hm,lX,QR⟩:∃s:Nat,z=(s:Int)∧s<u∧M1 m s<0∧∀j,j<s→0≤M1 m j:=by
   rcases hE with ⟨h9,_⟩ | h9
   ·omega
   ·exact h9
  refine au ?_;refine ag [1,2,5] rfl ?_;refine ab ?_;refine vr 2 ?_;refine aw rfl rfl (aip h2 (by omega) (show s<W by omega) (fun i hi j hj=>jz i (by omega) j hj) hN (by omega) hW) ?_;rintro _ H3 ⟨z3,rfl,de,Hn⟩;have h3:=h2.kept de;refine vr 1 ?_;refine aa [1,2,5,6] ?_;refine al ?_;refine ab ?_;refine vr 2 ?_;refine aa [1,2,5,6,16] ?_;refine aB rfl (fun hb=> ?_) (fun hb=> ?_)
  ·
   have hb:z3<0:=by simpa using hb
   have ix:∀i,i<m→M1 i s≤0:=by
    rcases Hn with h9 | ⟨r,h9,_⟩
    ·exact h9.2
    ·omega
   refine ab ?_;refine vr 1 ?_;refine aa [4] ?_;refine az ⟨.inr rfl,_,.tmp rfl (.nil),?_⟩;exact⟨M1,B1,false,y,rfl,h3,(fa.trans fA.le).trans de.le,so,iI,yL,(fun h9=>by cases h9),fun _=>⟨s,Hm,lX,ix⟩⟩
  ·
   have hb:¬z3<0:=by simpa using hb
   obtain⟨r,rfl,kt,cN,q,hL⟩:∃r:Nat,z3=(r:Int)∧r<m∧0<M1 r s∧∃q,mb M1 B1 (W-1) s m r q:=by
    rcases Hn with ⟨h9,_⟩ | h9
    ·omega
    ·exact h9
   have ko:=iI.E0 (by omega) Hm lX QR kt cN hL;have sV:=wF (cQ _ _ _ so ko) (iI.pivot (M':=lJ M1 r s) kt (by omega) fun _ _ _ _=>rfl);refine au ?_;refine ag [1,2,5,6] rfl ?_;refine av rfl ?_;refine vr 3 ?_;refine aw rfl rfl (Y0 h3 kt (by omega) (show s<W by omega) (by grind) jz sV hN (by omega) hW) ?_;rintro v4 H4 ⟨M4,h4,hM4,gK⟩;refine aq ?_
   exact⟨y.pivot r s,⟨r,s,ko,rfl⟩,an,M4,_,h4,((fa.trans fA.le).trans de.le).trans gK,cQ _ _ _ so ko,iI.pivot kt (by omega) hM4,fun i hi=>by
    show (if i=r then s else B1 i)<W
    split
    ·omega
    ·exact yL i hi⟩
end Go.ar
namespace Go.ar
open Go.Proofs Num Lp
theorem aiq{H:Heap}{v:Value}{p:Prg}{N:Nat}(hp:eJ N H v p):
 Fn Tryz.prog 46 #[v] H (fun v H'=>H'=H∧∃b,v = .bool b∧(b=true↔p.Ok)):=by
 obtain⟨fv,fN,rfl,eo,ep⟩:=hp
 obtain⟨Af,cf,xf,rfl,gZ,hO⟩:=eo.one
 obtain⟨Ar,cr,xr,rfl,eK,fO⟩:=ep.row;refine aZ (args:=[_]) Tryz.func46 rfl rfl Tryz.ntmps46 rfl rfl fun w0=> ?_;refine ag [0] rfl ?_;refine ab ?_;refine bS rfl rfl ?_;refine vr 1 ?_;refine aa [1] ?_;refine al ?_
 by_cases h1:400<(p.free.length:Int)
 ·
  skip
  refine ab ?_;refine vr 3 ?_;refine aA true rfl rfl (kS h1) ?_;refine vr 6 ?_;refine aa [1,14] ?_;refine cD rfl ?_;refine ab ?_;refine vr 1 ?_;refine aa [2] ?_;refine az ⟨.inr rfl,_,.tmp rfl (.nil),?_⟩;exact⟨rfl,false,rfl,⟨(fun h=>by cases h),(fun h=>by have h8:=h.gM;have h9:=h.rows;omega)⟩⟩
 ·
  skip
  by_cases h2:800<(p.rows.length:Int)
  ·
   skip
   refine ab ?_;refine vr 3 ?_;refine aA false rfl rfl (gA (by omega)) ?_;refine vr 4 ?_;refine aA true rfl rfl (kS h2) ?_;refine vr 1 ?_;refine aa [1,14] ?_;refine cD rfl ?_;refine ab ?_;refine vr 1 ?_;refine aa [2] ?_;refine az ⟨.inr rfl,_,.tmp rfl (.nil),?_⟩;exact⟨rfl,false,rfl,⟨(fun h=>by cases h),(fun h=>by have h8:=h.gM;have h9:=h.rows;omega)⟩⟩
  ·
   skip
   refine ab ?_;refine vr 3 ?_;refine aA false rfl rfl (gA (by omega)) ?_;refine vr 4 ?_;refine aA false rfl rfl (gA (by omega)) ?_;refine vr 1 ?_;refine aa [1,14] ?_;refine cU rfl ?_;refine au ?_;refine ag [1] rfl ?_;refine al ?_;refine ab ?_;refine vr 4 ?_;refine aa [1,17,18] ?_;refine aC ?_;refine fZ (fun(i:Nat)=>p.rows.length-i) (fun(i:Nat)=>put (put (put (emp) 1 (.box [.slice Af p.free.length cf,.slice Ar p.rows.length cr])) 17 (.val (.int .i64 (p.rows.length:Int)))) 18 (.val (.int .i64 (i:Int)))) (fun(i:Nat) H'=>H'=H∧(∀(k:Nat)(r:List Rat×Int×Rat),k<i→p.rows[k]? = some r→NX p.free.length r)∧i≤p.rows.length) 0 (⟨rfl,(fun k r h=>by omega),Nat.zero_le _⟩) an ?_;rintro i H1 ⟨e1,fT,hi⟩;rw[e1];refine ab ?_;refine vr 1 ?_;refine aa [1,17,18,19] ?_;refine al ?_;refine aB rfl (fun hb=> ?_) (fun hb=> ?_)
   ·
    have aQ:i<p.rows.length:=by simpa using hb
    obtain⟨r,hr⟩:∃r,p.rows[i]? = some r:=⟨_,List.getElem?_eq_getElem aQ⟩;obtain⟨A0,c0,f,A1,m1,c1,A2,m2,c2,fS,jV⟩:=fO i r hr;refine au ?_;refine ag [1,17,18] rfl ?_;refine al ?_;refine aC ?_;refine ab ?_;refine vr 2 ?_;refine aa [1,3,17,18] ?_;refine ab ?_;refine vr 3 ?_;refine bR (vs:=[.slice A0 r.1.length c0,.int .i64 r.2.1,.bool f,.slice A1 m1 c1,.slice A2 m2 c2]) ae rfl rfl rfl rfl eK rfl (by decide) jV (by omega) (by omega) fun _=> ?_;refine bt kR rfl ?_;obtain⟨ti,aj,ak⟩:=mq;refine aJ (.inl ⟨rfl,rfl⟩) rfl rfl rfl aj ak rfl rfl rfl ?_;refine aa [1,4,17,18] ?_
    by_cases h1:r.1.length=p.free.length
    ·
     skip
     by_cases h2:r.2.1<1
     ·
      skip
      refine ab ?_;refine vr 6 ?_;refine aA false rfl rfl (mV (by omega)) ?_;refine vr 3 ?_;refine aA true rfl rfl (iz h2) ?_;refine vr 6 ?_;refine aa [1,17,18,42] ?_;refine cD rfl ?_;refine ab ?_;refine vr 1 ?_;refine aa [2] ?_;refine az ⟨.inr rfl,_,.tmp rfl (.nil),?_⟩;exact⟨rfl,false,rfl,⟨(fun h=>by cases h),(fun h=>by have h9:=(h.row i r hr).2;omega)⟩⟩
     ·
      skip
      by_cases h3:3<r.2.1
      ·
       skip
       refine ab ?_;refine vr 6 ?_;refine aA false rfl rfl (mV (by omega)) ?_;refine vr 3 ?_;refine aA false rfl rfl (fQ (by omega)) ?_;refine vr 4 ?_;refine aA true rfl rfl (kS h3) ?_;refine vr 1 ?_;refine aa [1,17,18,42] ?_;refine cD rfl ?_;refine ab ?_;refine vr 1 ?_;refine aa [2] ?_;refine az ⟨.inr rfl,_,.tmp rfl (.nil),?_⟩;exact⟨rfl,false,rfl,⟨(fun h=>by cases h),(fun h=>by have h9:=(h.row i r hr).2;omega)⟩⟩
      ·
       skip
       refine ab ?_;refine vr 6 ?_;refine aA false rfl rfl (mV (by omega)) ?_;refine vr 3 ?_;refine aA false rfl rfl (fQ (by omega)) ?_;refine vr 4 ?_;refine aA false rfl rfl (gA (by omega)) ?_;refine vr 1 ?_;refine aa [1,17,18,42] ?_;refine cU rfl ?_;refine au ?_;refine ag [1,17,18] rfl ?_;refine av rfl ?_;refine aD rfl rfl ⟨by omega,by omega⟩ ?_;refine vr 1 ?_;refine aq ?_;exact⟨i+1,by omega,an,rfl,(fun k r9 hk jE=>by by_cases h9:k<i;exact fT k r9 h9 jE;(obtain rfl:k=i:=by omega);rw[hr]at jE;cases jE;exact⟨by omega,by omega⟩),by omega⟩
    ·
     skip
     refine ab ?_;refine vr 6 ?_;refine aA true rfl rfl (my (by omega)) ?_;refine vr 10 ?_;refine aa [1,17,18,42] ?_;refine cD rfl ?_;refine ab ?_;refine vr 1 ?_;refine aa [2] ?_;refine az ⟨.inr rfl,_,.tmp rfl (.nil),?_⟩;exact⟨rfl,false,rfl,⟨(fun h=>by cases h),(fun h=>by have h9:=(h.row i r hr).1;omega)⟩⟩
   ·
    have hb:p.rows.length≤i:=by simpa using hb
    refine aU ?_;refine ag [] rfl ?_;refine ab ?_;refine vr 1 ?_;refine aa [2] ?_;refine az ⟨.inr rfl,_,.tmp rfl (.nil),?_⟩;exact⟨rfl,true,rfl,⟨fun _=>⟨by omega,by omega,fun k r hr=>fT k r (by have h9:=(List.getElem?_eq_some_iff.1 hr).1;omega) hr⟩,fun _=>rfl⟩⟩
end Go.ar
namespace Go.ar
open Go.Proofs Num Lp
theorem szc{n s N:Nat}(hn:n≤1000)(hs:s≤N+2)(hN:N≤400000000){k:Nat}(hk:k≤n):((k*(2*s+1)+1:Nat):Int)≤900000000000:=by
 have h1:k*(2*s+1)≤1000*(2*s+1):=Nat.mul_le_mul_right _ (by omega)
 omega
theorem Lv:aG 0≤1:=by decide
theorem Za{H:Heap}{u v:Value}{l1 l2:List Rat}{N:Nat}(hu:aR (ck N) 3 H u l1)(hv:aR (ck N) 3 H v l2)(hl:l1.length=l2.length)(hn:l1.length≤1000)(hN:N≤400000000):
 Fn Tryz.prog 64 #[u,v] H (KS H (cj l1.length (fn l1) (fn l2))):=by
 have h1:=hu.jF
 have h2:=hv.jF
 obtain⟨A,c,ys,rfl,hc,hr,gE⟩:=hu
 obtain⟨A',c',ys',rfl,jd,dt,N5⟩:=hv
 have xS:=UZ (f:=fn l1) (g:=fn l2) (s:=N+2) (n:=l1.length) (fun k hk=>⟨JA h1 hk,JA h2 (by omega)⟩)
 rw[←hl];refine aZ (args:=[_,_]) Tryz.func64 rfl rfl Tryz.ntmps64 rfl rfl fun w0=> ?_;refine ag [0,1] rfl ?_;refine ab ?_;refine bt cR rfl ?_;refine aa [0,1,4] ?_;refine ab ?_;refine aw rfl rfl ((ry (n:=0) (by decide) (by decide)).rc) ?_;rintro _ H1 ⟨bH,t1,rfl,bW⟩;rw[show ((0:Int):Rat)=0 from rfl]at bW;refine bt cR rfl ?_;obtain⟨ti,aj,ak⟩:=a8;refine aJ (.inl ⟨rfl,rfl⟩) rfl rfl rfl aj ak rfl rfl rfl ?_;refine aa [0,1,4,5] ?_;refine al ?_;refine ab ?_;refine vr 1 ?_;refine aa [0,1,4,5,6] ?_;refine aC ?_;refine gy (fun(i:Nat)(t:RC)=>l1.length-i) (fun(i:Nat)(t:RC)=>put (put (put (put (put (emp) 0 (.val (.slice A l1.length c))) 1 (.val ((.slice A' l1.length c')))) 4 (.box [.bool false,.slice none 0 0,.slice none 0 0])) 5 (.box [.bool t.f,.slice t.A1 t.m1 t.c1,.slice t.A2 t.m2 t.c2])) 6 (.val (.int .i64 (i:Int)))) (fun(i:Nat)(t:RC) H'=>Heap.le H H'∧bK H' t.v (cj i (fn l1) (fn l2))∧i≤l1.length) 0 t1 (⟨bH,bW,Nat.zero_le _⟩) an ?_;rintro i t H2 ⟨bh,bN,hi⟩;refine al ?_;refine ab ?_;refine vr 5 ?_;refine S8 rfl rfl ?_;rw[show (if ((l1.length:Nat):Int)<((l1.length:Nat):Int)then((l1.length:Nat):Int)else((l1.length:Nat):Int))=((l1.length:Nat):Int)from if_neg (by omega)];refine vr 1 ?_;refine aa [0,1,4,5,6,14] ?_
 refine aB rfl (fun hb=> ?_) (fun hb=> ?_)
 ·
  have aQ:i<l1.length:=by simpa using hb
  obtain⟨q,dL⟩:∃q,l1[i]? = some q:=⟨_,List.getElem?_eq_getElem aQ⟩;obtain⟨q2,xZ⟩:∃q,l2[i]? = some q:=⟨_,List.getElem?_eq_getElem (by omega)⟩;obtain⟨g5,B1,k1,e1,B2,k2,e2,air,Zb,wg⟩:=aR.Dp gE dL;obtain⟨g6,D1,n1,d1,D2,n2,d2,Rj,uY,Rk⟩:=aR.Dp N5 xZ;have iL:=jC dL;have iM:=jC xZ;have jz:=xS i hi;have j0:=szc (s:=N+2) hn (Nat.le_refl _) hN hi;have sV:=pc q q2;have Lw:=Zb.size;have uB:=uY.size;refine au ?_;refine ag [0,1,4,5,6] rfl ?_;refine al ?_;refine aC ?_;refine dZ .bF [0,1,2,3,4,5,6,7,8,9,10,11] follows (by kernel_rfl) ?_;refine vr 3 ?_;refine bR (vs:=[.bool g5,.slice B1 k1 e1,.slice B2 k2 e2]) ae rfl rfl rfl rfl (hr.le bh) rfl (by decide) wg (by omega) (by omega) fun _=> ?_;refine vr 2 ?_;refine bR (vs:=[.bool g6,.slice D1 n1 d1,.slice D2 n2 d2]) ae rfl rfl rfl rfl (dt.le bh) rfl (by decide) Rk (by omega) (by omega) fun _=> ?_;refine aO rfl rfl ((J9 (Zb.le bh) (uY.le bh) (by omega)).rc) (fun _ _ h=>by first | exact h.le | exact h.1) ?_;rintro _ H3 ⟨dC,t3,rfl,gD⟩;refine aO rfl rfl ((V5 (N:=900000000000) (((bK.raw bN).mono (by unfold cj;omega)).le dC) ((bK.raw gD).mono (by omega)) (by decide)).rc) (fun _ _ h=>by first | exact h.le | exact h.1) ?_;rintro _ H4 ⟨cE,t4,rfl,ct⟩;rw[←iL,←iM,show cj i (fn l1) (fn l2)+fn l1 i*fn l2 i=cj (i+1) (fn l1) (fn l2)from rfl]at ct
  obtain⟨ti,aj,ak⟩:=a8;refine aJ (.inl ⟨rfl,rfl⟩) rfl rfl rfl aj ak rfl rfl rfl ?_;refine aq ?_;refine ag [0,1,4,5,6] rfl ?_;refine av rfl ?_;refine vr 1 ?_;refine aD rfl rfl ⟨by omega,by omega⟩ ?_;refine vr 1 ?_;refine aq ?_;exact⟨i+1,t4,by omega,an,bh.trans (dC.trans cE),ct,by omega⟩
 ·
  have hb:l1.length≤i:=by simpa using hb
  obtain rfl:i=l1.length:=by omega
  refine aU ?_;refine ag [4,5] rfl ?_;refine ab ?_;refine vr 1 ?_;obtain⟨ti,aj,ak⟩:=a8;refine aJ (.inl ⟨rfl,rfl⟩) rfl rfl rfl aj ak rfl rfl rfl ?_;refine aa [4] ?_;obtain⟨bX,aK,aL⟩:=a8;refine az ⟨.inr rfl,_,.agg rfl Tryz.underlying31 aK aL (.nil),?_⟩;exact⟨bh,t,rfl,bN⟩
end Go.ar
namespace Go.ar
open Go.Proofs Num Lp
end Go.ar
namespace Go.ar
open Go.Proofs Num Lp
end Go.ar
namespace Go.ar
open Go.Proofs Num Lp
def fi(r:List Rat×Int×Rat):List Rat×Int×Rat:=if kv r.2.2 r.2.1=1 then r else(r.1.map (fun q=> -q),kf r.2.1 (-1),-r.2.2)
def ais(N:Nat)(r:List Rat×Int×Rat)(H:Heap)(v:Value)(H':Heap):Prop:=Heap.le H H'∧∃A0 c0 f A1 m1 c1 A2 m2 c2,v = .agg #[.slice A0 r.1.length c0,.int .i64 (fi r).2.1,.bool f,.slice A1 m1 c1,.slice A2 m2 c2]∧eV (N+2) H' [.slice A0 r.1.length c0,.int .i64 (fi r).2.1,.bool f,.slice A1 m1 c1,.slice A2 m2 c2] (fi r)
theorem eV.mono{N M:Nat}{H:Heap}{vs:List Value}{r:List Rat×Int×Rat}(h:eV N H vs r)(hl:N≤M):eV M H vs r:=by
 obtain⟨c,f,u,w,h1,h2,h3⟩:=h
 exact⟨c,f,u,w,h1,h2.mono fun vs q a=>ck.mono a hl,h3.mono hl⟩
theorem Lx{r:List Rat×Int×Rat}(h:0<r.2.2∨(r.2.2=0∧r.2.1≠3)):fi r=r:=by
 have h1:¬(r.2.2<0∨(r.2.2=0∧r.2.1=3)):=by grind
 unfold fi kv;rw[if_neg h1,if_pos rfl]
theorem Zc{r:List Rat×Int×Rat}(h:¬(0<r.2.2∨(r.2.2=0∧r.2.1≠3))):fi r=(r.1.map (fun q=> -q),kf r.2.1 (-1),-r.2.2):=by
 have h1:r.2.2<0∨(r.2.2=0∧r.2.1=3):=by grind
 unfold fi kv;rw[if_pos h1,if_neg (by decide)]
theorem ait{l:List Rat}{f:Rat→Rat}{j:Nat}{q:Rat}(h:l[j]? = some q):(l.take (j+1)).map f=(l.take j).map f ++ [f q]:=by
 rw[List.take_add_one,h,List.map_append];rfl
theorem aiu{H:Heap}{r:List Rat×Int×Rat}{N:Nat}{A0:Option Addr}{c0:Nat}{f:Bool}{A1:Option Addr}{m1 c1:Nat}{A2:Option Addr}{m2 c2:Nat}(hr:eV N H [.slice A0 r.1.length c0,.int .i64 r.2.1,.bool f,.slice A1 m1 c1,.slice A2 m2 c2] r)(hN:N≤400000000)(x6:r.1.length≤1000)(jW:r.2.1=1∨r.2.1=2∨r.2.1=3):
 Fn Tryz.prog 134 #[.agg #[.slice A0 r.1.length c0,.int .i64 r.2.1,.bool f,.slice A1 m1 c1,.slice A2 m2 c2]] H (ais N r H):=by
 have kT:cH H (.agg #[.bool f,.slice A1 m1 c1,.slice A2 m2 c2]) r.2.2 N:=eV.bound hr
 have pZ:aR (ck N) 3 H (.slice A0 r.1.length c0) r.1:=eV.KR hr
 obtain⟨Zd,Ze,x0,e0,mD,sj,IX⟩:=id pZ
 cases e0
 have hbz:=kT.size
 have JW:=pZ.jF;refine aZ (args:=[_]) Tryz.func134 rfl rfl Tryz.ntmps134 rfl rfl fun w0=> ?_;refine ag [0] rfl ?_;refine ab ?_;refine bS rfl rfl ?_;refine bt kR rfl ?_;refine aa [1,2] ?_;refine ab ?_;refine vr 2 ?_;refine aw rfl rfl (vX kT (by omega)) ?_;rintro _ H1 ⟨bH,rfl⟩;refine vr 1 ?_;refine aa [1,2,3] ?_;refine kC (fun(b:Bool)=>put (put (emp) 1 (.box [.slice A0 r.1.length c0,.int .i64 r.2.1,.bool f,.slice A1 m1 c1,.slice A2 m2 c2])) 2 (.box [.slice none 0 0,.int .i64 0,.bool false,.slice none 0 0,.slice none 0 0])) (fun(b:Bool) H'=>H'=H1∧fi r=(r.1.map (fun q=> -q),kf r.2.1 (-1),-r.2.2)) ?_ ?_
 ·
  by_cases g1:0<r.2.2
  ·
   skip
   refine ab ?_;refine vr 1 ?_;refine aA true rfl rfl (kS (Ai.2 g1)) ?_;refine vr 9 ?_;refine aa [1,2,19] ?_;refine cD rfl ?_;refine ab ?_;refine vr 1 ?_;obtain⟨ti,aj,ak⟩:=mq;refine aJ (.inl ⟨rfl,rfl⟩) rfl rfl rfl aj ak rfl rfl rfl ?_;refine aa [2] ?_;obtain⟨bX,aK,aL⟩:=mq;refine az ⟨.inr rfl,_,.agg rfl Tryz.underlying78 aK aL (.nil),?_⟩;exact⟨bH,A0,c0,f,A1,m1,c1,A2,m2,c2,by rw[Lx (by grind)];rfl,by rw[Lx (by grind)];exact uy _ _ _ _ _ bH (hr.mono (by omega))⟩
  ·
   skip
   by_cases g2:r.2.2=0
   ·
    skip
    by_cases g3:r.2.1=3
    ·
     skip
     refine ab ?_;refine vr 1 ?_;refine aA false rfl rfl (gA (by have:=mt Ai.1 g1;omega)) ?_;refine vr 2 ?_;refine aA true rfl rfl (fk (lA.2 g2)) ?_;refine vr 3 ?_;refine aA false rfl rfl (mV g3) ?_;refine vr 2 ?_;refine aa [1,2,19] ?_;refine cU rfl ?_;refine au ?_;exact⟨true,an,rfl,Zc (by grind)⟩
    ·
     skip
     refine ab ?_;refine vr 1 ?_;refine aA false rfl rfl (gA (by have:=mt Ai.1 g1;omega)) ?_;refine vr 2 ?_;refine aA true rfl rfl (fk (lA.2 g2)) ?_;refine vr 3 ?_;refine aA true rfl rfl (my g3) ?_;refine vr 2 ?_;refine aa [1,2,19] ?_;refine cD rfl ?_;refine ab ?_;refine vr 1 ?_;obtain⟨ti,aj,ak⟩:=mq;refine aJ (.inl ⟨rfl,rfl⟩) rfl rfl rfl aj ak rfl rfl rfl ?_;refine aa [2] ?_;obtain⟨bX,aK,aL⟩:=mq;refine az ⟨.inr rfl,_,.agg rfl Tryz.underlying78 aK aL (.nil),?_⟩;exact⟨bH,A0,c0,f,A1,m1,c1,A2,m2,c2,by rw[Lx (by grind)];rfl,by rw[Lx (by grind)];exact uy _ _ _ _ _ bH (hr.mono (by omega))⟩
   ·
    skip
    refine ab ?_;refine vr 1 ?_;refine aA false rfl rfl (gA (by have:=mt Ai.1 g1;omega)) ?_;refine vr 2 ?_;refine aA false rfl rfl (gI (fun h=>g2 (lA.1 h))) ?_;refine vr 6 ?_;refine aa [1,2,19] ?_;refine cU rfl ?_;refine au ?_;exact⟨true,an,rfl,Zc (by grind)⟩
 ·
  rintro b H3 ⟨e3,hp⟩;rw[e3];clear e3 H3;refine bJ .bF [0,1,2,3,4,5,6,7] follows (by kernel_rfl) ?_;refine vr 4 ?_;refine aO rfl rfl ((C0 (kT.le bH) (by omega)).rc) (fun _ _ h=>by first | exact h.le | exact h.1) ?_;rintro _ H2 ⟨bh,t4,rfl,ct⟩;have iX:=bH.trans bh;refine dS ae rfl kR rfl rfl ?_;refine bt kR rfl ?_;obtain⟨ti,aj,ak⟩:=mq;refine aJ (.inl ⟨rfl,rfl⟩) rfl rfl rfl aj ak rfl rfl rfl ?_;refine aa [1,2,4] ?_;refine kC (fun(rl:Int)=>put (put (put (emp) 1 (.box [.slice A0 r.1.length c0,.int .i64 r.2.1,.bool f,.slice A1 m1 c1,.slice A2 m2 c2])) 2 (.box [.slice none 0 0,.int .i64 0,.bool false,.slice none 0 0,.slice none 0 0])) 4 (.box [.slice none 0 0,.int .i64 rl,.bool t4.f,.slice t4.A1 t4.m1 t4.c1,.slice t4.A2 t4.m2 t4.c2])) (fun(rl:Int) H'=>H'=H2∧rl=kf r.2.1 (-1)) ?_ ?_
  ·
   refine ab ?_;refine vr 3 ?_;refine aa [1,2,4,29] ?_;refine aB rfl (fun hb=> ?_) (fun hb=> ?_)
   ·
    have cS:¬r.2.1=2:=by simpa using hb
    refine av rfl ?_;refine vr 2 ?_;refine cP rfl rfl ⟨by omega,by omega⟩ ?_;refine vr 1 ?_;obtain⟨ti,aj,ak⟩:=qP;refine aJ (.inr rfl) rfl rfl rfl aj ak rfl rfl rfl ?_;refine aq ?_;exact⟨_,an,rfl,by unfold kf;rw[if_neg (by decide),if_neg cS]⟩
   ·
    have cS:r.2.1=2:=by simpa using hb
    refine au ?_;exact⟨_,an,rfl,by unfold kf;rw[if_neg (by decide),if_pos cS];exact cS⟩
  ·
   rintro rl H3 ⟨e3,ks⟩;rw[e3];clear e3 H3;refine al ?_;refine ab ?_;refine vr 4 ?_;refine aa [1,2,4,36,37] ?_;refine aC ?_;refine gh (fun(j:Nat)(w:Value)(Ly:List Value)=>r.1.length-j) (fun(j:Nat)(w:Value)(Ly:List Value)=>put (put (put (put (put (emp) 1 (.box [.slice A0 r.1.length c0,.int .i64 r.2.1,.bool f,.slice A1 m1 c1,.slice A2 m2 c2])) 2 (.box [.slice none 0 0,.int .i64 0,.bool false,.slice none 0 0,.slice none 0 0])) 4 (.box [w,.int .i64 rl,.bool t4.f,.slice t4.A1 t4.m1 t4.c1,.slice t4.A2 t4.m2 t4.c2])) 36 (.val (.int .i64 (r.1.length:Int)))) 37 (.val (.int .i64 (j:Int)))) (fun(j:Nat)(w:Value)(Ly:List Value) H'=>ia bT 31 3 H2 H' w ((r.1.take j).map (fun q=> -q)) Ly∧j≤r.1.length) 0 (.slice none 0 0) [] (⟨ahg H2,Nat.zero_le _⟩) an ?_;rintro j w Ly H4 ⟨hG,hj⟩;obtain⟨F1,f1,rfl⟩:=hG.form
   have oN:((r.1.take j).map (fun q=> -q)).length=j:=by simp;omega
   refine ab ?_;refine vr 1 ?_;refine aa [1,2,4,36,37,38] ?_;refine al ?_;refine aB rfl (fun hb=> ?_) (fun hb=> ?_)
   ·
    have fP:j<r.1.length:=by simpa using hb
    obtain⟨q,dL⟩:∃q,r.1[j]? = some q:=⟨_,List.getElem?_eq_getElem fP⟩;obtain⟨g6,G1,n1,o1,G2,n2,o2,Rj,uY,Rk⟩:=aR.Dp IX dL;refine au ?_;refine ag [1,2,4,36,37] rfl ?_;refine al ?_;refine aC ?_;refine ab ?_;refine vr 2 ?_;refine aa [1,2,4,5,36,37] ?_;refine dZ .bF [0,1,2,3,4,5,6,7,8,9,10,11] follows (by kernel_rfl) ?_;refine vr 5 ?_;refine bR (vs:=[.bool g6,.slice G1 n1 o1,.slice G2 n2 o2]) ae rfl rfl rfl rfl (sj.le (iX.trans hG.le)) rfl (by decide) Rk (by omega) (by omega) fun _=> ?_;refine aO rfl rfl (hG.call (C0 (uY.le (iX.trans hG.base)) (by omega))) (fun _ _ h=>h.le fun _ _ h=>h.1) ?_;rintro _ H6 mT;have lH:=hG.wh fK mT fun _ _ h=>h.1;obtain⟨⟨_,nv⟩,_⟩:=mT;obtain⟨t6,rfl⟩:=nv.rc;refine dI Tryz.underlying26 cR rfl rfl rfl rfl rfl rfl rfl ?_;intro gc lC;have Zf:=lH.ins fK (whole (eT [t6.v]) 31) lC;refine eN Tryz.underlying26 cR rfl rfl Zf.own (eZ _ _ _ _ _ _) rfl (KO _ _ _ _ _ _ _) (by rw[oN];omega) (by rw[oN];omega) ?_;intro v7 H7 HE;have tx:=Zf.append fK (k:=[-q]) (by simp) HE (pb (fK _ _ _ _ (Ct _ (Heap.bI _ lC)) (show bT _ [_,_,_] _ from nv)) rfl);obtain⟨F7,f7,rfl⟩:=tx.form;refine vr 1 ?_;obtain⟨ti,aj,ak⟩:=acu;refine aJ (.inr rfl) rfl rfl rfl aj ak rfl rfl rfl ?_
    refine aq ?_;refine ag [1,2,4,36,37] rfl ?_;refine av rfl ?_;refine aD rfl rfl ⟨by omega,by omega⟩ ?_;refine vr 1 ?_;refine aq ?_;exact⟨j+1,_,_,by omega,an,by rw[ait dL];exact tx,by omega⟩
   ·
    have fP:r.1.length≤j:=by simpa using hb
    obtain rfl:j=r.1.length:=by omega
    rw[List.take_length]at hG oN;have cE:=iX.trans hG.le
    have iB:=(hG.sl fK).qx (N:=N+2) (fun q hq=>by
     obtain⟨q',oV,rfl⟩:=List.mem_map.1 hq
     rw[vF];exact JW q' oV)
    rw[oN]at iB;refine aU ?_;refine ag [2,4] rfl ?_;refine ab ?_;refine vr 1 ?_;obtain⟨ti,aj,ak⟩:=mq;refine aJ (.inl ⟨rfl,rfl⟩) rfl rfl rfl aj ak rfl rfl rfl ?_;refine aa [2] ?_;obtain⟨bX,aK,aL⟩:=mq;refine az ⟨.inr rfl,_,.agg rfl Tryz.underlying78 aK aL (.nil),?_⟩
    skip
    simp only[List.take_length,oN]
    exact⟨cE,F1,f1,t4.f,t4.A1,t4.m1,t4.c1,t4.A2,t4.m2,t4.c2,by rw[hp,ks];rfl,by rw[hp,←ks];exact⟨_,_,_,_,rfl,iB,((bK.raw ct).mono (by rw[vF];omega)).le hG.le⟩⟩
end Go.ar
namespace Go.ar
open Go.Proofs Num Lp
theorem wG{α:Type}{l:List α}{k n:Nat}{a:α}(h:l[k]? = some a)(hk:k<n):(fill l n)[k]? = some (some a):=by
 unfold fill
 have hl:=(List.getElem?_eq_some_iff.1 h).1
 rw[List.getElem?_append_left (by rw[List.length_map,List.length_take];omega),List.getElem?_map,List.getElem?_take,if_pos hk,h];rfl
theorem aiv{f:Nat→Rat}{W k:Nat}{q:Rat}(hk:k<W):(fill (aH f W) (k+1)).set k (some q)=fill (aH (bQ f k q) W) (k+1):=by
 apply List.ext_getElem?
 intro i
 have hl:=mG (l:=aH f W) (k:=k+1) (by rw[aW];omega)
 have kA:=mG (l:=aH (bQ f k q) W) (k:=k+1) (by rw[aW];omega)
 rw[aW]at hl kA
 by_cases hi:i<W
 ·by_cases e:i=k
  ·subst e
   rw[List.getElem?_set_self (by omega),wG (di hi) (Nat.lt_succ_self _),qy]
  ·rw[List.getElem?_set_ne (fun e'=>e e'.symm)]
   by_cases h2:i<k+1
   ·rw[wG (di hi) h2,wG (di hi) h2,oJ e]
   ·unfold fill
    rw[List.getElem?_append_right (by simp;omega),List.getElem?_append_right (by simp;omega)]
    simp[aW]
 ·rw[List.getElem?_eq_none (by rw[List.length_set];omega),List.getElem?_eq_none (by omega)]
theorem aiw{W k n:Nat}{xs:List Value}{f:Nat→Rat}(h:pJ W xs f n)(hk:k<n)(hn:n≤W):∃a d:Int,fh [.int .i64 a,.int .i64 d] (f k)∧∀(j:Nat)(v:Value),[.int .i64 a,.int .i64 d][j]? = some v→xs[k*2+j]? = some v:=by
 have h:bC _ _ _ _:=h
 obtain⟨vs,_,h2,h3⟩:=h.get (wG (di (f:=f) (n:=W) (show k<W by omega)) hk)
 have h2:fh vs (f k):=h2
 obtain⟨a,d,rfl,h4⟩:=id h2
 exact⟨a,d,h2,h3⟩
theorem aix{W k:Nat}{xs vs:List Value}{f:Nat→Rat}{q:Rat}(h:pJ W xs f (k+1))(hk:k<W)(hv:fh vs q):pJ W (aI xs (k*2) vs) (bQ f k q) (k+1):=by
 show bC _ _ _ _
 rw[←aiv hk]
 have h:bC _ _ _ _:=h
 exact h.set (by rw[mG (by rw[aW];omega),aW];exact hk) (show gO qA _ vs (some q)from hv) (by obtain⟨a,b,rfl,_⟩:=hv;rfl)
theorem aiy{W k:Nat}{xs:List Value}{f f':Nat→Rat}(h:pJ W xs f k)(he:∀j,j<k→f' j=f j):pJ W xs f' k:=by
 have h:bC _ _ _ _:=h
 refine⟨by rw[h.len];simp[fill,aW],fun i a ha=> ?_⟩
 unfold fill at ha
 by_cases hi:i<((aH f' W).take k).length
 ·rw[List.getElem?_append_left (by rw[List.length_map];exact hi),List.getElem?_map,List.getElem?_take]at ha
  rw[List.length_take,aW]at hi
  rw[if_pos (by omega),di (by omega)]at ha
  cases ha
  have h2:=h.at_ i _ (wG (di (f:=f) (n:=W) (show i<W by omega)) (show i<k by omega))
  rw[he i (by omega)];exact h2
 ·rw[List.getElem?_append_right (by rw[List.length_map];omega)]at ha
  have:=(List.getElem?_eq_some_iff.1 ha).2
  rw[List.getElem_replicate]at this
  subst this;trivial
structure QY(o:Bool)(K H:Heap)(g:Nat)(G:GG)(R W m:Nat)(M:Nat→Nat→Rat)(B:Nat→Nat)(z:Nat)(f:Nat→Rat)(k:Nat):Prop where
 q:QV o H g (G.on (z::G.top)) R W m M B
 row:∃xs,H z=some ⟨xs,W*2,163,true⟩∧pJ W xs f k
 ne:z≠g
 le:Heap.le K (rem H (G.on (z::G.top)).gs)
section
variable {o o':Bool} {K H H':Heap} {g:Nat} {G:GG} {R W m z k:Nat} {M:Nat→Nat→Rat} {B:Nat→Nat} {f:Nat→Rat}
theorem QY.put(h:QY o K H g G R W m M B z f k)(ht:fE (G.on (z::G.top)).gs g H H')(ie:H' g=some ⟨[.slice G.Ar R G.cr,G.bv,.bool o'],3,160,true⟩){xs:List Value}{f':Nat→Rat}{k':Nat}(gE:pJ W xs f' k'):QY o' K (ins H' z ⟨xs,W*2,163,true⟩) g G R W m M B z f' k':=by
 have h1:=h.q.tB ht ie
 have hm:z∈(G.on (z::G.top)).gs:=QZ.mc
 have hT:fE (G.on (z::G.top)).gs z H' (ins H' z ⟨xs,W*2,163,true⟩):=((Kept.refl _ _).il z).ins hm _
 exact⟨⟨h1.cT.Bm (List.mem_cons_self ..) hT (by rw[bo];simp),h1.gt,by rw[a7 _ _ (Ne.symm h.ne)];exact h1.st⟩,⟨_,bo _ _ _,gE⟩,h.ne,h.le.trans (ht.le.trans hT.le)⟩
end
def qD(p:Prg)(M:Nat→Nat→Rat)(k i:Nat):Rat:=if k<p.u∨k=p.w then-aX i (fun q=>if p.u≤p.unit q then M q k else 0)else 0
theorem Zg{p:Prg}{M:Nat→Nat→Rat}{k:Nat}:qD p M k 0=0:=by
 unfold qD;split
 ·show -0=(0:Rat);grind
 ·rfl
theorem Zh{p:Prg}{M:Nat→Nat→Rat}{k i:Nat}(h:p.u≤p.unit i∧(k<p.u∨k=p.w)):qD p M k (i+1)=qD p M k i-M i k:=by
 unfold qD;rw[if_pos h.2,if_pos h.2,fG,if_pos h.1];grind
theorem Zi{p:Prg}{M:Nat→Nat→Rat}{k i:Nat}(h:¬(p.u≤p.unit i∧(k<p.u∨k=p.w))):qD p M k (i+1)=qD p M k i:=by
 unfold qD
 by_cases h2:k<p.u∨k=p.w
 ·rw[if_pos h2,if_pos h2,fG,if_neg (fun h1=>h ⟨h1,h2⟩)];grind
 ·rw[if_neg h2,if_neg h2]
theorem Zj{p:Prg}{M:Nat→Nat→Rat}{k:Nat}:qD p M k p.lp.m=qB p M k:=rfl
def wid(p:Prg)(i:Nat):Nat:=if i=0 then p.u+1 else p.w+1
theorem aiz{p:Prg}:wid p p.lp.m=p.w+1:=by
 unfold wid
 split
 ·rename_i h
  have e:p.w=p.u:=by show aV _ _ _ p.lp.m=_;rw[h];rfl
  omega
 ·rfl
theorem aiA(l:List Rat):aH (fn l) l.length=l:=by
 apply List.ext_getElem?
 intro j
 by_cases hj:j<l.length
 ·rw[di hj,List.getElem?_eq_getElem hj,jC (List.getElem?_eq_getElem hj)]
 ·rw[List.getElem?_eq_none (by rw[aW];omega),List.getElem?_eq_none (by omega)]
theorem bT.rc{H:Heap}{vs:List Value}{q:Rat}(h:bT H vs q):∃t:RC,vs = [.bool t.f,.slice t.A1 t.m1 t.c1,.slice t.A2 t.m2 t.c2]∧bK H t.v q:=by
 obtain⟨t,e⟩:=bK.rc (show bK H (.agg vs.toArray) q from h)
 have h2:=uh e
 refine⟨t,h2,?_⟩
 rw[←e];exact h
theorem ck.rc{H:Heap}{vs:List Value}{q:Rat}{N:Nat}(h:ck N H vs q):∃t:RC,vs = [.bool t.f,.slice t.A1 t.m1 t.c1,.slice t.A2 t.m2 t.c2]∧cH H t.v q N:=by
 obtain⟨f,A,m,c,A',m',c',rfl⟩:=ck.cells h
 exact⟨⟨f,A,m,c,A',m',c'⟩,rfl,h⟩
theorem QV.rT{o:Bool}{H:Heap}{g:Nat}{G:GG}{R W m:Nat}{M:Nat→Nat→Rat}{B:Nat→Nat}(h:QV o H g G R W m M B):∃Ab cb,G.bv = .slice Ab m cb∧∀{o' H' R' M' B'},QV o' H' g G R' W m M' B'→∀i,i<m→Rd H' Ab (ee B' m):=by
 rcases h.cT.basis with ⟨h1,h2,h3⟩ | ⟨gb,cb,sz,h1,h2,h3⟩
 ·exact⟨none,0,by rw[h3,h1],fun _ i hi=>by omega⟩
 ·refine⟨_,cb,h2,fun h' i hi=> ?_⟩
  rcases h'.cT.basis with ⟨k1,k2,k3⟩ | ⟨Bu,Lc,pT,k1,k2,k3⟩
  ·omega
  ·rw[h1]at k1;cases k1;exact dF k3
theorem Rd.at{H:Heap}{ad:Addr}{xs:List Value}(h:Rd H (some ad) xs):∀(i:Nat)(v:Value),xs[i]? = some v→cell H (ad.add i)=some v:=fun i v hv=>by
 obtain⟨D7,h1,h2⟩:=h i v hv
 cases h1;exact h2
theorem QZ.il{o:Bool}{S H:Heap}{g:Nat}{G:GG}{R W m z:Nat}{M:Nat→Nat→Rat}{B:Nat→Nat}{f:Nat→Rat}(h:QZ o (rem S G.gs) S H g G R W m M B z f):fE G.gs g S H:=⟨h.le.trans (Nz H z G.gs),h.same⟩
theorem LA{H H':Heap}{v v':Value}{e n:Nat}{rg:List (Nat×Nat)}{W z c:Nat}(h:App H v e 1 n (iH rg W ++ [Value.slice (some ⟨z,0,none⟩) W c]) v' H'):App H v e 1 n (iH (rg ++ [(z,c)]) W) v' H':=by
 unfold iH at h⊢;rw[List.map_append];exact h
theorem Zk{rg:List (Nat×Nat)}{W z c:Nat}:iH rg W++eT [Value.slice (some ⟨z,0,none⟩) W c]=iH (rg ++ [(z,c)]) W:=by
 unfold iH;rw[List.map_append];rfl
theorem aiB{B:Nat→Nat}{m:Nat}:∀u,u∈ee B m→u.oneCell'=true:=fun u hu=>by
 obtain⟨i,_,rfl⟩:=List.mem_map.1 hu
 rfl
theorem Zl{n d:Int}:∀u,u∈eT [Value.agg #[.int .i64 n,.int .i64 d]]→u.oneCell'=true:=fun u hu=>by
 have hu:u∈[Value.int .i64 n,.int .i64 d]:=hu
 simp only[List.mem_cons,List.not_mem_nil,or_false]at hu
 rcases hu with rfl | rfl <;> rfl
theorem QV.BE{o:Bool}{H:Heap}{g:Nat}{G:GG}{R W m:Nat}{M M':Nat→Nat→Rat}{B:Nat→Nat}(h:QV o H g G R W m M B)(hM:∀i,i<R→∀j,j<W→M' i j=M i j):QV o H g G R W m M' B:=⟨h.cT.congr hM fun _ _=>rfl,h.gt,h.st⟩
theorem aiC{H:Heap}{bv:Value}{B:Nat→Nat}{M:Nat→Nat→Rat}{m W g:Nat}(ho:bP H bv 3 1 m (ee B m))(hg:H g=none):∃G:GG,(G.top = [g]∧G.gs=g::aE bv)∧QV false (ins H g ⟨[.slice none 0 0,bv,.bool false],3,160,true⟩) g G 0 W m M B:=by
 have hn:∀q,q∈aE bv→q≠g:=fun q hq e=>by
  obtain⟨en,he⟩:=ho.block (dg.1 hq)
  rw[e,hg]at he;cases he
 refine⟨⟨[g],[],aE bv,bv,[],none,0⟩,⟨rfl,?_⟩,⟨⟨?_,fun q hq=> ?_,rfl,rfl,lQ _ _ _,fun i p hp=> ?_,?_⟩,List.mem_singleton.2 rfl,bo _ _ _⟩⟩
 ·show [g]++([]++(aE bv ++ []))=_
  simp
 ·show ([g]++([]++(aE bv ++ []))).Nodup
  simp only[List.nil_append,List.append_nil,List.singleton_append]
  exact List.nodup_cons.2 ⟨fun hm=>hn g hm rfl,Qw _⟩
 ·rw[List.mem_singleton.1 hq,bo];simp
 ·have hp:([]:List (Nat×Nat))[i]? = some p:=hp
  simp at hp
 ·rcases ho.2 with ⟨h1,h2⟩ | ⟨gb,cap,h1,h2,_⟩
  ·exact .inl ⟨h2,by show aE bv = [];rw[h1];rfl,h1⟩
  ·refine .inr ⟨gb,cap,cap*1,by show aE bv = [gb];rw[h1];rfl,h1,?_⟩
   rw[a7 _ _ (hn gb (by rw[h1];exact List.mem_singleton.2 rfl))];exact h2
theorem aiD{H1 H2:Heap}{bv:Value}{B:Nat→Nat}{M:Nat→Nat→Rat}{m W g:Nat}{G:GG}{xs:List Value}(h:QV false (ins H2 g ⟨[.slice none 0 0,bv,.bool false],3,160,true⟩) g G 0 W m M B)(ha:App H1 (.slice none 0 0) 3 1 m xs bv H2)(hg:H2 g=none)(hG:G.top = [g]∧G.gs=g::aE bv):Heap.le H1 (rem (ins H2 g ⟨[.slice none 0 0,bv,.bool false],3,160,true⟩) G.gs):=fun q en hq=>by
 have h1:=ha.same q en hq fun e=>by cases e
 have h2:q≠g:=fun e=>by rw[e,hg]at h1;cases h1
 refine⟨en,?_,.refl _⟩
 rw[bL,a7 _ _ h2]
 ·exact h1
 ·rw[hG.2]
  intro hm
  rcases List.mem_cons.1 hm with hm | hm
  ·exact h2 hm
  ·rcases ha.new q hm with h3 | h3
   ·cases h3
   ·rw[h3]at hq;cases hq
def QkP(p:Prg)(c:List Rat)(st:Int)(xv:Value)(H:Heap):Prop:=(st=1∧∃x,aR bT 3 H xv x∧x.length=p.free.length∧rS p c 1 (cj p.free.length (fn c) (fn x))∧∀q,q∈x→aG q≤17)∨(st≠1∧rS p c st 0)
theorem aiE{H:Heap}{p:Prg}{c:List Rat}{pv cv:Value}{Ar Ab:Option Addr}{cr cb N N0:Nat}{rg:List (Nat×Nat)}(bg:p.Ok)(dA:c.length=p.free.length)(hp:eJ N H pv p)(hc:aR (ck N) 3 H cv c)(hN:(N:Int)≤4398046511000)(ht:Hv H Ar Ab rg p.lp.m (p.w+1) (dG p) p.unit)(hz:∀i,i<p.lp.m→∀j,j≤p.w→aG (dG p i j)≤N0)(CD:(N0:Int)≤4398046511000):
 Fn Tryz.prog 63 #[pv,cv,.agg #[.slice Ar p.lp.m cr,.slice Ab p.lp.m cb],.int .i64 (p.u:Int)] H (fun v H'=>∃st xv b,v = .tuple #[.int .i64 st,xv,.bool b]∧Heap.le H H'∧(b=true→QkP p c st xv H')):=by
 obtain⟨fv,fN,rfl,eo,ep⟩:=id hp
 obtain⟨Ac,cc,xc,rfl,De,l0,sU⟩:=id hc
 have oZ:=F8 p
 have Rm:=bg.gM
 have Rn:=bg.rows
 have aiF:p.lp.m≤800:=Rn
 have Zm:p.lp.n≤400:=Rm
 have l4:=fg p
 have aiG:=l5 p;refine aZ (args:=[_,_,_,_]) Tryz.func63 rfl rfl Tryz.ntmps63 rfl rfl fun w0=> ?_;refine ag [0,1,2,3] rfl ?_;refine ab ?_;refine bS rfl rfl ?_;refine bS rfl rfl ?_;refine vr 3 ?_;refine aa [1,3,4,6] ?_;refine K1 4 rfl fun g4 e4 vT=> ?_;have Ag:Rd (ins H g4 ⟨[fv,fN],2,e4,true⟩) (some ⟨g4,0,none⟩) [fv,fN]:=eZ _ _ _ _ _ _;have cE:Heap.le H (ins H g4 ⟨[fv,fN],2,e4,true⟩):=Heap.bI _ vT
 show VC _ _ _ _ _ _ _ (ins H g4 ⟨[fv,fN],2,e4,true⟩)
 generalize ins H g4 ⟨[fv,fN],2,e4,true⟩=H1 at *
 have wE:=ht.le cE;refine ab ?_;refine vr 2 ?_;refine eN Tryz.underlying94 iP rfl rfl (lQ H1 3 1) (wE.rT) (by rw[z7,Nat.mul_one]) (aiB) (by omega) (by omega) ?_;intro bv H2 ll;rw[List.nil_append,Nat.zero_add]at ll;obtain⟨A2,c2,rfl⟩:=ll.own.form;refine dS ae rfl acC rfl rfl ?_;refine Mx rfl rfl ?_;intro g hg;obtain⟨G0,aiH,jk⟩:=aiC (M:=dG p) (W:=p.w+1) ll.own hg;have AH:Heap.le H1 (rem (ins H2 g ⟨[.slice none 0 0,.slice A2 p.lp.m c2,.bool false],3,160,true⟩) G0.gs):=aiD jk ll hg aiH;refine vr 1 ?_;refine aa [1,3,4,6,11] ?_;refine ab ?_;refine vr 1 ?_;refine aD rfl rfl ⟨by omega,by omega⟩ ?_;refine vr 1 ?_;refine aa [1,3,4,6,11,12] ?_;refine al ?_;refine ab ?_;refine vr 4 ?_;refine aa [1,3,4,11,12,39,40,41] ?_;refine aC ?_;refine gy (fun(i:Nat)(G:GG)=>p.lp.m-i) (fun(i:Nat)(G:GG)=>put (put (put (put (put (put (put (put (emp) 1 (.val (.slice Ac c.length cc))) 3 (.val (.int .i64 (p.u:Int)))) 4 (.val (.pointer (some ⟨g4,0,none⟩)))) 11 (.val (.pointer (some ⟨g,0,none⟩)))) 12 (.val (.int .i64 (wid p i:Int)))) 39 (.val (.slice Ar p.lp.m cr))) 40 (.val (.int .i64 (p.lp.m:Int)))) 41 (.val (.int .i64 (i:Int)))) (fun(i:Nat)(G:GG) H'=>QV false H' g G i (p.w+1) p.lp.m (dG p) p.unit∧Heap.le H1 (rem H' G.gs)∧i≤p.lp.m) 0 G0 (⟨jk,AH,Nat.zero_le _⟩) (by repeat (first | exact iy _ | refine dh rfl ?_ | refine dh (iO (by first | omega | (simp;done) | (simp[wid];done))) ?_)) ?_
 rintro i G H3 ⟨hq,hl,hi⟩;have pL:=cE.trans (hl.trans (bG _ _));refine ab ?_;refine vr 1 ?_;refine aa [1,3,4,11,12,39,40,41,42] ?_;refine al ?_;refine aB rfl (fun hb=> ?_) (fun hb=> ?_)
 ·
  have aQ:i<p.lp.m:=by simpa using hb
  obtain⟨pi,cL⟩:∃pi,rg[i]? = some pi:=⟨_,List.getElem?_eq_getElem (by rw[ht.len];exact aQ)⟩;obtain⟨xp,fS,hep⟩:=wE.row i pi cL;refine au ?_;refine ag [1,3,4,11,39,40,41] rfl ?_;refine al ?_;refine aC ?_;refine ab ?_;refine aM ae rfl rfl rfl rfl rfl (wE.kF.le (hl.trans (bG _ _))) (by rw[Int.toNat_natCast];exact ke cL) (by omega) (by omega) fun _=> ?_;refine vr 1 ?_;refine aa [1,3,4,11,14,39,40,41] ?_;refine ab ?_;refine vr 2 ?_;refine ig Tryz.underlying161 fB rfl rfl rfl (by omega) (by omega) (by omega) (by omega) ?_;intro z HF;have wb:=aic (P:=qA) (e:=163) (sz:=2) (zs:=[.int .i64 0,.int .i64 0]) (z:=0) (k:=((p.w+1:Nat):Int)) (c:=p.w+1) HF rfl (Int.toNat_natCast _) (by unfold maxLen;omega) hq.cT.ne;rw[Int.toNat_natCast]at wb⊢;refine vr 1 ?_;refine aa [1,3,4,11,14,15,39,40,41] ?_;refine al ?_;refine ab ?_;refine vr 3 ?_;refine aa [1,3,4,11,15,39,40,41,48,49,50] ?_;refine aC ?_;refine gh (fun(j:Nat)(w:Value)(xs:List Value)=>p.w+1-j) (fun(j:Nat)(w:Value)(xs:List Value)=>put (put (put (put (put (put (put (put (put (put (put (emp) 1 (.val (.slice Ac c.length cc))) 3 (.val (.int .i64 (p.u:Int)))) 4 (.val (.pointer (some ⟨g4,0,none⟩)))) 11 (.val (.pointer (some ⟨g,0,none⟩)))) 15 (.val (w))) 39 (.val (.slice Ar p.lp.m cr))) 40 (.val (.int .i64 (p.lp.m:Int)))) 41 (.val (.int .i64 (i:Int)))) 48 (.val (.slice (some ⟨pi.1,0,none⟩) (p.w+1) pi.2))) 49 (.val (.int .i64 ((p.w+1:Nat):Int)))) 50 (.val (.int .i64 (j:Int)))) (fun(j:Nat)(w:Value)(xs:List Value) H'=>iG G.gs H3 qA 163 2 H' w (aH (dG p i) j) xs∧j≤p.w+1) 0 _ _ (⟨wb,Nat.zero_le _⟩) an ?_
  rintro j w xs H5 ⟨hX,hj⟩;obtain⟨A5,c5,e5⟩:=hX.form;rw[aW]at e5;subst e5;have HG:=hl.trans hX.base;refine ab ?_;refine vr 1 ?_;refine aa [1,3,4,11,15,39,40,41,48,49,50,51] ?_;refine al ?_;refine aB rfl (fun hb=> ?_) (fun hb=> ?_)
  ·
   have Zn:j<p.w+1:=by simp at hb;omega
   obtain⟨vs,_,Ro,BC⟩:=hep.get (di Zn);obtain⟨t,rfl,Rp⟩:=bT.rc Ro;have hzj:=hz i aQ j (by omega);refine au ?_;refine ag [1,3,4,11,15,39,40,41,48,49,50] rfl ?_;refine al ?_;refine aC ?_;refine ab ?_;refine bR (vs:=[.bool t.f,.slice t.A1 t.m1 t.c1,.slice t.A2 t.m2 t.c2]) ae rfl rfl rfl rfl (fS.le (HG.trans (bG _ _))) rfl (by decide) (by rw[Int.toNat_natCast];exact BC) (by omega) (by omega) fun _=> ?_;refine bt cR rfl ?_;obtain⟨ti,aj,ak⟩:=a8;refine aJ (.inl ⟨rfl,rfl⟩) rfl rfl rfl aj ak rfl rfl rfl ?_;refine aa [1,3,4,11,15,17,39,40,41,48,49,50] ?_;refine ab ?_;refine vr 1 ?_;refine aw rfl rfl (hX.call (Yg (N:=N0) ((bK.raw (Rp.le HG)).mono hzj) CD)) ?_;rintro _ H6 mT;have HH:=hX.wh yP mT fun _ _ h=>h.1;obtain⟨⟨_,n6,d6,b6,rfl,CZ⟩,_⟩:=mT;refine vr 3 ?_;refine bt fB rfl ?_;obtain⟨ti,aj,ak⟩:=dT;refine aJ (.inl ⟨rfl,rfl⟩) rfl rfl rfl aj ak rfl rfl rfl ?_;refine vr 1 ?_;refine aa [1,3,4,11,15,18,19,39,40,41,48,49,50] ?_;refine al ?_;refine ab ?_;refine vr 2 ?_;refine aa [1,3,4,11,15,18,39,40,41,48,49,50,60] ?_;refine aB rfl (fun hb=> ?_) (fun hb=> ?_)
   ·
    skip
    refine ab ?_;refine vr 3 ?_;refine aa [8,9,10] ?_;refine az ⟨.inr rfl,_,.tmp rfl (.tmp rfl (.tmp rfl (.nil))),?_⟩;exact⟨0,.slice none 0 0,false,rfl,cE.trans (hl.trans (HH.base.trans (bG _ _))),fun h9=>by cases h9⟩
   ·
    have vh:=CZ (by simpa using hb);refine au ?_;refine ag [1,3,4,11,15,18,39,40,41,48,49,50] rfl ?_;refine av rfl ?_;refine vr 2 ?_;refine dI Tryz.underlying161 fB rfl rfl rfl rfl rfl rfl rfl ?_;intro gb bD;have HI:=HH.ins yP (whole (eT [.agg #[.int .i64 n6,.int .i64 d6]]) 163) bD;refine eN Tryz.underlying161 fB rfl rfl HI.own (eZ _ _ _ _ _ _) rfl Zl (by rw[aW];omega) (by rw[aW];omega) ?_;intro W9 H7 HE;have Rq:=HI.append yP (j:=[dG p i j]) (by simp) HE (pb (show qA _ [_,_] _ from vh) rfl);refine vr 1 ?_;refine aq ?_;refine ag [1,3,4,11,15,39,40,41,48,49,50] rfl ?_;refine av rfl ?_;refine aD rfl rfl ⟨by omega,by omega⟩ ?_;refine vr 1 ?_;refine aq ?_;exact⟨j+1,_,_,by omega,an,by rw[vR];exact Rq,by omega⟩
  ·
   have Zn:p.w+1≤j:=by simp at hb;omega
   obtain rfl:j=p.w+1:=by omega
   obtain⟨z,cz,ez,Zo⟩:=OV hX.own (by rw[aW];omega);rw[aW]at ez;have e1:=(Value.slice.inj ez).1;have e2:=(Value.slice.inj ez).2.2;subst e1;subst e2;clear ez;obtain⟨hgX,aiI,heX⟩:=hX.cT hq.cT;have Zp:QV false H5 g (G.on (z::G.top)) i (p.w+1) p.lp.m (dG p) p.unit:=⟨hgX,List.mem_cons_of_mem _ hq.gt,(hX.same g hq.mem).trans hq.st⟩;have nu:z≠g:=fun e9=>hX.apart g hq.mem (by rw[←e9];exact List.mem_singleton.2 rfl);have Rr:oI uS (rem H5 (G.on (z::G.top)).gs) H5 z (aH (dG p i) (p.w+1)):=⟨_,_,Zo,hX.yF⟩;refine aU ?_;refine ag [1,3,4,11,15,39,40,41] rfl ?_;refine av rfl ?_;refine vr 3 ?_;refine aS ae rfl rfl rfl ?_;refine aN ae rfl rfl rfl (Zp.iF) ?_;refine vr 1 ?_;refine dI Tryz.underlying158 Ca rfl rfl rfl rfl rfl rfl rfl ?_;intro gb bD;obtain⟨tT,rU⟩:=Zp.fresh (e:=whole [.slice (some ⟨z,0,none⟩) (p.w+1) c5] 161) bD;have Rs:oI uS (rem (ins H5 gb (whole [.slice (some ⟨z,0,none⟩) (p.w+1) c5] 161)) (G.on (z::G.top)).gs) (ins H5 gb (whole [.slice (some ⟨z,0,none⟩) (p.w+1) c5] 161)) z (aH (dG p i) (p.w+1)):=Rr.le rU (a7 _ _ fun(e9:z=gb)=>by rw[←e9,Zo]at bD;cases bD);refine eN Tryz.underlying158 Ca rfl rfl tT.cT.rows (eZ _ _ _ _ _ _) rfl (AQ _ _ _) (by omega) (by omega) ?_;intro v8 H8 ny;obtain⟨A8,c8,rfl⟩:=ny.own.form
   rw[show iH (G.on (z::G.top)).rg (p.w+1)++eT [Value.slice (some ⟨z,0,none⟩) (p.w+1) c5]=iH (G.rg ++ [(z,c5)]) (p.w+1)from Zk]at ny;obtain⟨eW,dX,uZ⟩:=tT.more (G:=G) hq.gt nu Rs ny
   have eW:=eW.BE fun i' fH j' hj'=>show dG p i' j'=(if i'=i then dG p i else dG p i') j' by split <;> simp_all
   have dX:=(hl.trans aiI).trans (rU.trans dX);refine vr 3 ?_;refine aS ae rfl rfl rfl ?_;obtain⟨ti,aj,ak⟩:=IJ;refine ly (g:=g) (o:=0) (.inl rfl) rfl uZ rfl (by show 0+1≤3;omega) aj ak rfl rfl rfl rfl ?_;refine vr 1 ?_;refine aq ?_;refine ag [1,3,4,11,12,39,40,41] rfl ?_;refine av rfl ?_;refine aD rfl rfl ⟨by omega,by omega⟩ ?_;refine vr 1 ?_;refine aq ?_
   have e8:wid p (i+1)=p.w+1:=by unfold wid;rw[if_neg (by omega)]
   exact⟨i+1,_,by omega,an,eW,dX,by omega⟩
 ·
  have aQ:p.lp.m≤i:=by simpa using hb
  obtain rfl:i=p.lp.m:=by omega
  rw[aiz];have wb:=ahw (P:=qA) (e:=163) (sz:=2) hq.cT.ne;refine aU ?_;refine ag [1,3,4,11,12] rfl ?_;refine ab ?_;refine vr 1 ?_;refine aa [1,3,4,11,12,20] ?_;refine al ?_;refine ab ?_;refine vr 3 ?_;refine aa [3,4,11,12,20,79,80,81] ?_;refine aC ?_;refine gh (fun(j:Nat)(w:Value)(xs:List Value)=>c.length-j) (fun(j:Nat)(w:Value)(xs:List Value)=>put (put (put (put (put (put (put (put (emp) 3 (.val (.int .i64 (p.u:Int)))) 4 (.val (.pointer (some ⟨g4,0,none⟩)))) 11 (.val (.pointer (some ⟨g,0,none⟩)))) 12 (.val (.int .i64 ((p.w+1:Nat):Int)))) 20 (.val (w))) 79 (.val (.slice Ac c.length cc))) 80 (.val (.int .i64 (c.length:Int)))) 81 (.val (.int .i64 (j:Int)))) (fun(j:Nat)(w:Value)(xs:List Value) H'=>iG G.gs H3 qA 163 2 H' w (aH (fn c) j) xs∧j≤c.length) 0 _ _ (⟨wb,Nat.zero_le _⟩) an ?_;rintro j w xs H5 ⟨hX,hj⟩;obtain⟨A5,c5,e5⟩:=hX.form;rw[aW]at e5;subst e5;have HG:=hl.trans hX.base;refine ab ?_;refine vr 1 ?_;refine aa [3,4,11,12,20,79,80,81,82] ?_;refine al ?_;refine aB rfl (fun hb=> ?_) (fun hb=> ?_)
  ·
   have Rt:j<c.length:=by simpa using hb
   obtain⟨vs,_,Ro,BC⟩:=sU.get (show c[j]? = some (fn c j) by rw[List.getElem?_eq_getElem Rt,jC (List.getElem?_eq_getElem Rt)]);obtain⟨t,rfl,Rp⟩:=ck.rc Ro;refine au ?_;refine ag [3,4,11,12,20,79,80,81] rfl ?_;refine al ?_;refine aC ?_;refine ab ?_;refine bR (vs:=[.bool t.f,.slice t.A1 t.m1 t.c1,.slice t.A2 t.m2 t.c2]) ae rfl rfl rfl rfl (l0.le (cE.trans (HG.trans (bG _ _)))) rfl (by decide) (by rw[Int.toNat_natCast];exact BC) (by omega) (by omega) fun _=> ?_;refine bt cR rfl ?_;obtain⟨ti,aj,ak⟩:=a8;refine aJ (.inl ⟨rfl,rfl⟩) rfl rfl rfl aj ak rfl rfl rfl ?_;refine aa [3,4,11,12,20,22,79,80,81] ?_;refine ab ?_;refine vr 1 ?_;refine aw rfl rfl (hX.call (Yg (N:=N) (Rp.le (cE.trans HG)) hN)) ?_;rintro _ H6 mT;have HH:=hX.wh yP mT fun _ _ h=>h.1;obtain⟨⟨_,n6,d6,b6,rfl,CZ⟩,_⟩:=mT;refine vr 3 ?_;refine bt fB rfl ?_;obtain⟨ti,aj,ak⟩:=dT;refine aJ (.inl ⟨rfl,rfl⟩) rfl rfl rfl aj ak rfl rfl rfl ?_;refine vr 1 ?_;refine aa [3,4,11,12,20,23,24,79,80,81] ?_;refine al ?_;refine ab ?_;refine vr 2 ?_;refine aa [3,4,11,12,20,23,79,80,81,91] ?_;refine aB rfl (fun hb=> ?_) (fun hb=> ?_)
   ·
    skip
    refine ab ?_;refine vr 3 ?_;refine aa [8,9,10] ?_;refine az ⟨.inr rfl,_,.tmp rfl (.tmp rfl (.tmp rfl (.nil))),?_⟩;exact⟨0,.slice none 0 0,false,rfl,cE.trans (hl.trans (HH.base.trans (bG _ _))),fun h9=>by cases h9⟩
   ·
    have vh:=CZ (by simpa using hb);refine au ?_;refine ag [3,4,11,12,20,23,79,80,81] rfl ?_;refine av rfl ?_;refine vr 2 ?_;refine dI Tryz.underlying161 fB rfl rfl rfl rfl rfl rfl rfl ?_;intro gb bD;have HI:=HH.ins yP (whole (eT [.agg #[.int .i64 n6,.int .i64 d6]]) 163) bD;refine eN Tryz.underlying161 fB rfl rfl HI.own (eZ _ _ _ _ _ _) rfl Zl (by rw[aW];omega) (by rw[aW];omega) ?_;intro W9 H7 HE;have Rq:=HI.append yP (j:=[fn c j]) (by simp) HE (pb (show qA _ [_,_] _ from vh) rfl);refine vr 1 ?_;refine aq ?_;refine ag [3,4,11,12,20,79,80,81] rfl ?_;refine av rfl ?_;refine aD rfl rfl ⟨by omega,by omega⟩ ?_;refine vr 1 ?_;refine aq ?_;exact⟨j+1,_,_,by omega,an,by rw[vR];exact Rq,by omega⟩
  ·
   have Rt:c.length≤j:=by simpa using hb
   obtain rfl:j=c.length:=by omega
   have Ht:=hX.sl yP;rw[aiA]at Ht;have eU:QV false H5 g G p.lp.m (p.w+1) p.lp.m (dG p) p.unit:=⟨hq.cT.kept ⟨hX.out,hX.same⟩,hq.gt,(hX.same g hq.mem).trans hq.st⟩;have dy:=hl.trans hX.out;clear hX;refine aU ?_;refine ag [3,4,11,12,20] rfl ?_;refine ab ?_;refine vr 1 ?_;refine ig Tryz.underlying161 fB rfl rfl rfl (by omega) (by omega) (by omega) (by omega) ?_;intro z HF;rw[Int.toNat_natCast]
   have nu:z≠g:=fun e9=>by rw[e9,eU.st]at HF;cases HF
   obtain⟨yS,BF,cY,ga⟩:∃yS BF,G.bv = .slice yS p.lp.m BF∧∀t H',bZ uS H' (G.on t) p.lp.m (p.w+1) p.lp.m (dG p) p.unit→∀i,i<p.lp.m→Rd H' yS (ee p.unit p.lp.m):=by
    rcases eU.cT.basis with ⟨h1,h2,h3⟩ | ⟨gb,cb,sz,h1,h2,h3⟩
    ·exact⟨none,0,by rw[h3,h1],fun _ _ _ i hi=>by omega⟩
    ·
     refine⟨_,cb,h2,fun t H' h' i hi=> ?_⟩
     rcases h'.basis with ⟨k1,k2,k3⟩ | ⟨Bu,Lc,pT,k1,k2,k3⟩
     ·omega
     ·
      have k1:G.bb = [Bu]:=k1;rw[h1]at k1;cases k1;exact dF k3
   obtain⟨CG,Q6⟩:=eU.cT.apart (e:=⟨du [.int .i64 0,.int .i64 0] ((p.w+1)*2),(p.w+1)*2,163,true⟩) HF;have Ru:QY false (rem H5 G.gs) (ins H5 z ⟨du [.int .i64 0,.int .i64 0] ((p.w+1)*2),(p.w+1)*2,163,true⟩) g G p.lp.m (p.w+1) p.lp.m (dG p) p.unit z (fun _=>0) 0:=⟨⟨CG,List.mem_cons_of_mem _ eU.gt,by rw[a7 _ _ (Ne.symm nu)];exact eU.st⟩,⟨_,bo _ _ _,Q2⟩,nu,by rw[Q6];exact .refl _⟩
   generalize ins H5 z ⟨du [.int .i64 0,.int .i64 0] ((p.w+1)*2),(p.w+1)*2,163,true⟩=H6 at *
   refine vr 1 ?_;refine aa [3,4,11,12,20,25] ?_;refine al ?_;refine ab ?_;refine vr 3 ?_;refine aa [3,4,11,12,20,25,100,101] ?_;refine aC ?_;refine gh (fun(k:Nat)(f:Nat→Rat)(o1:Bool)=>p.w+1-k) (fun(k:Nat)(f:Nat→Rat)(o1:Bool)=>put (put (put (put (put (put (put (put (emp) 3 (.val (.int .i64 (p.u:Int)))) 4 (.val (.pointer (some ⟨g4,0,none⟩)))) 11 (.val (.pointer (some ⟨g,0,none⟩)))) 12 (.val (.int .i64 ((p.w+1:Nat):Int)))) 20 (.val (.slice A5 c.length c5))) 25 (.val (.slice (some ⟨z,0,none⟩) (p.w+1) (p.w+1)))) 100 (.val (.int .i64 ((p.w+1:Nat):Int)))) 101 (.val (.int .i64 (k:Int)))) (fun(k:Nat)(f:Nat→Rat)(o1:Bool) H'=>QY o1 (rem H5 G.gs) H' g G p.lp.m (p.w+1) p.lp.m (dG p) p.unit z f k∧(o1=false→∀j,j<k→f j=qB p (dG p) j)∧k≤p.w+1) 0 (fun _=>0) false (⟨Ru,fun _ j hj=>absurd hj (Nat.not_lt_zero _),Nat.zero_le _⟩) an ?_;rintro k f o1 H7 ⟨hY,hf,hk⟩;obtain⟨zs,pV,rG⟩:=hY.row;have Ec:=Lr rG hk;refine ab ?_;refine vr 1 ?_;refine aa [3,4,11,12,20,25,100,101,102] ?_;refine al ?_;refine aB rfl (fun hb=> ?_) (fun hb=> ?_)
   ·
    have eX:k<p.w+1:=by simp at hb;omega
    have tS:=hY.put (o':=o1) ((Kept.refl _ _).il _) hY.q.st (Q0 (f:=bQ f k 0) (aiy rG fun j hj=>oJ (by omega)) eX (by rw[qy];exact Dr));refine au ?_;refine ag [3,4,11,12,20,25,100,101] rfl ?_;refine al ?_;refine aC ?_;refine ab ?_;refine vr 2 ?_;refine aa [3,4,11,12,20,25,26,100,101] ?_;refine ab ?_;refine vr 2 ?_;refine dS ae rfl fB rfl rfl ?_;obtain⟨ti,aj,ak⟩:=dT;refine cM (.inl rfl) ae rfl rfl rfl (by omega) (by omega) (pV) rfl (by show 0+(p.w+1)*2≤zs.length;omega) aj ak (fun _=>rfl) rfl rfl rfl fun _=> ?_;refine aa [3,4,11,12,20,25,26,100,101] ?_;rw[Dx,Int.toNat_natCast];refine ab ?_;refine vr 2 ?_;refine aS ae rfl rfl rfl ?_;refine aN ae rfl rfl rfl (show cell _ _=some (.slice yS p.lp.m BF)from by rw[←cY];exact tS.q.l8) ?_;refine vr 2 ?_;refine aa [3,4,11,12,20,25,26,100,101,112,113] ?_;refine aC ?_;refine gh (fun(i:Nat)(f2:Nat→Rat)(o2:Bool)=>p.lp.m-i) (fun(i:Nat)(f2:Nat→Rat)(o2:Bool)=>put (put (put (put (put (put (put (put (put (put (put (emp) 3 (.val (.int .i64 (p.u:Int)))) 4 (.val (.pointer (some ⟨g4,0,none⟩)))) 11 (.val (.pointer (some ⟨g,0,none⟩)))) 12 (.val (.int .i64 ((p.w+1:Nat):Int)))) 20 (.val (.slice A5 c.length c5))) 25 (.val (.slice (some ⟨z,0,none⟩) (p.w+1) (p.w+1)))) 26 (.val (.int .i64 (k:Int)))) 100 (.val (.int .i64 ((p.w+1:Nat):Int)))) 101 (.val (.int .i64 (k:Int)))) 112 (.val (.int .i64 (p.lp.m:Int)))) 113 (.val (.int .i64 (i:Int)))) (fun(i:Nat)(f2:Nat→Rat)(o2:Bool) H'=>QY o2 (rem H5 G.gs) H' g G p.lp.m (p.w+1) p.lp.m (dG p) p.unit z f2 (k+1)∧(o2=false→(∀j,j<k→f2 j=qB p (dG p) j)∧f2 k=qD p (dG p) k i)∧i≤p.lp.m) 0 (bQ f k 0) o1 (⟨tS,fun h9=>⟨fun j hj=>by rw[oJ (by omega)];exact hf h9 j hj,by rw[qy,Zg]⟩,Nat.zero_le _⟩) an ?_
    rintro i f2 o2 H8 ⟨hV,hF,hi⟩;obtain⟨ws,rQ,mX⟩:=hV.row;have oZ:=Lr mX (show k+1≤p.w+1 by omega);refine ab ?_;refine vr 1 ?_;refine aa [3,4,11,12,20,25,26,100,101,112,113,114] ?_;refine al ?_;refine aB rfl (fun hb=> ?_) (fun hb=> ?_)
    ·
     have aQ:i<p.lp.m:=by simpa using hb
     have wH:=ga _ _ hV.q.cT i aQ;refine au ?_;refine ag [3,4,11,12,20,25,26,100,101,112,113] rfl ?_;refine al ?_;refine aC ?_;refine ab ?_;refine vr 2 ?_;refine aa [3,4,11,12,20,25,26,27,100,101,112,113] ?_;refine kC (fun(b0:Bool)=>put (put (put (put (put (put (put (put (put (put (put (put (put (emp) 3 (.val (.int .i64 (p.u:Int)))) 4 (.val (.pointer (some ⟨g4,0,none⟩)))) 11 (.val (.pointer (some ⟨g,0,none⟩)))) 12 (.val (.int .i64 ((p.w+1:Nat):Int)))) 20 (.val (.slice A5 c.length c5))) 25 (.val (.slice (some ⟨z,0,none⟩) (p.w+1) (p.w+1)))) 26 (.val (.int .i64 (k:Int)))) 27 (.val (.int .i64 (i:Int)))) 100 (.val (.int .i64 ((p.w+1:Nat):Int)))) 101 (.val (.int .i64 (k:Int)))) 112 (.val (.int .i64 (p.lp.m:Int)))) 113 (.val (.int .i64 (i:Int)))) 135 (.val (.bool b0))) (fun(b0:Bool) H'=>H'=H8∧(b0=true↔p.u≤p.unit i∧(k<p.u∨k=p.w))) ?_ ?_
     ·
      by_cases h1:p.u≤p.unit i
      ·
       skip
       by_cases h2:k<p.u
       ·
        skip
        refine av rfl ?_;refine vr 2 ?_;refine aS ae rfl rfl rfl ?_;refine aN ae rfl rfl rfl (show cell _ _=some (.slice yS p.lp.m BF)from by rw[←cY];exact hV.q.l8) ?_;refine vr 1 ?_;refine aM ae rfl rfl rfl rfl rfl (wH) (by rw[Int.toNat_natCast];exact gj aQ) (by omega) (by omega) fun _=> ?_;refine vr 1 ?_;refine aA true rfl rfl (qT (by omega)) ?_;refine vr 3 ?_;refine aA true rfl rfl (iz (by omega)) ?_;refine vr 7 ?_;refine aq ?_;exact⟨_,an,rfl,by simp[h1,h2]⟩
       ·
        skip
        by_cases h3:k=p.w
        ·
         skip
         refine av rfl ?_;refine vr 2 ?_;refine aS ae rfl rfl rfl ?_;refine aN ae rfl rfl rfl (show cell _ _=some (.slice yS p.lp.m BF)from by rw[←cY];exact hV.q.l8) ?_;refine vr 1 ?_;refine aM ae rfl rfl rfl rfl rfl (wH) (by rw[Int.toNat_natCast];exact gj aQ) (by omega) (by omega) fun _=> ?_;refine vr 1 ?_;refine aA true rfl rfl (qT (by omega)) ?_;refine vr 3 ?_;refine aA false rfl rfl (fQ (by omega)) ?_;refine vr 3 ?_;refine cP rfl rfl ⟨by omega,by omega⟩ ?_;refine aA true rfl rfl (fk (by omega)) ?_;refine vr 2 ?_;refine aq ?_;exact⟨_,an,rfl,by simp[h1,h3]⟩
        ·
         skip
         refine av rfl ?_;refine vr 2 ?_;refine aS ae rfl rfl rfl ?_;refine aN ae rfl rfl rfl (show cell _ _=some (.slice yS p.lp.m BF)from by rw[←cY];exact hV.q.l8) ?_;refine vr 1 ?_;refine aM ae rfl rfl rfl rfl rfl (wH) (by rw[Int.toNat_natCast];exact gj aQ) (by omega) (by omega) fun _=> ?_;refine vr 1 ?_;refine aA true rfl rfl (qT (by omega)) ?_;refine vr 3 ?_;refine aA false rfl rfl (fQ (by omega)) ?_;refine vr 3 ?_;refine cP rfl rfl ⟨by omega,by omega⟩ ?_;refine aA false rfl rfl (gI (by omega)) ?_;refine vr 2 ?_;refine aq ?_;exact⟨_,an,rfl,by simp[h1,h2,h3]⟩
      ·
       skip
       refine av rfl ?_;refine vr 2 ?_;refine aS ae rfl rfl rfl ?_;refine aN ae rfl rfl rfl (show cell _ _=some (.slice yS p.lp.m BF)from by rw[←cY];exact hV.q.l8) ?_;refine vr 1 ?_;refine aM ae rfl rfl rfl rfl rfl (wH) (by rw[Int.toNat_natCast];exact gj aQ) (by omega) (by omega) fun _=> ?_;refine vr 1 ?_;refine aA false rfl rfl (zu (by omega)) ?_;refine vr 11 ?_;refine aq ?_;exact⟨_,an,rfl,by simp[h1]⟩
     ·
      rintro b0 H9 ⟨e9,iv⟩;rw[e9];clear e9 H9;refine aB rfl (fun hb=> ?_) (fun hb=> ?_)
      ·
       have Rv:=iv.1 (by simpa using hb);obtain⟨pi,cL⟩:=eU.cT.get aQ;obtain⟨xs8,l7,alg,oO⟩:=hV.q.rk;obtain⟨xi8,si8,Rw,Rx⟩:=hV.q.row (G:=G.on _) cL;obtain⟨n5,d5,B4,mK⟩:=aiw mX (Nat.lt_succ_self k) (show k+1≤p.w+1 by omega);obtain⟨n6,d6,vh,qd,_⟩:=ma Rx eX;have a6:=GX g H8;refine dZ (.cG (kO g H8)) [0,1,2,3,4,5,6,7,8,9,10,11,12,13,14,15,16,17,18,19] follows (ib [0,0,0,0,0,24,56,0,128,384,896,0,3968,8064,0,32640,65408,131068,262143,524287] (by kernel_rfl)) ?_;refine eh a6 rfl ?_;refine eh a6 rfl ?_;refine eh a6 rfl ?_;refine eh a6 rfl ?_;refine eh a6 rfl ?_;refine Bp a6 ae rfl rfl rfl rfl (yH rQ nu) rfl (by decide) (by rw[Int.toNat_natCast];exact mK) (by omega) (by omega) fun _=> ?_;refine eh a6 rfl ?_;refine lD a6 rfl ?_;refine lE a6 ae rfl rfl rfl ?_;refine jR a6 ae rfl rfl rfl (hV.q.k0) ?_;refine eh a6 rfl ?_;refine Bo a6 ae rfl rfl rfl rfl rfl (l7) (by rw[Int.toNat_natCast];exact oO i pi cL) (by omega) (by omega) fun _=> ?_;refine eh a6 rfl ?_;refine Bp a6 ae rfl rfl rfl rfl (yH Rw (hV.q.wk (G:=G.on _) cL)) rfl (by decide) (by rw[Int.toNat_natCast];exact qd) (by omega) (by omega) fun _=> ?_;refine Bq rfl rfl (Qr hV.q.mem hV.q.st B4 vh) (fun v H9 nC=>by obtain⟨k1,_,_,_,_,_,k2,_⟩:=nC;exact hV.q.fy k1 k2) ?_
       rintro v9 H9 ⟨wI,vs9,o9,q9,rfl,Zq,uZ,eW⟩;obtain⟨n9,d9,rfl,_⟩:=id Zq;have a6:=hV.q.fy wI uZ;have aiJ:=(wI.same z QZ.mc nu).trans rQ;have Ry:=hV.put wI uZ (aix mX eX Zq);obtain⟨ti,aj,ak⟩:=dT;refine K2 a6 ae rfl rfl rfl (by omega) (by omega) (aiJ) rfl (by show (p.w+1)*2≤ws.length;omega) aj ak (fun _=>rfl) rfl rfl rfl fun _=> ?_;refine aq ?_;refine ag [3,4,11,12,20,25,26,100,101,112,113] rfl ?_;refine av rfl ?_;refine aD rfl rfl ⟨by omega,by omega⟩ ?_;refine vr 1 ?_;refine aq ?_;exact⟨i+1,bQ f2 k q9,o9,by omega,an,Ry,fun h9=>⟨fun j hj=>by rw[oJ (by omega)];exact(hF (eW h9).1).1 j hj,by rw[qy,(eW h9).2,(hF (eW h9).1).2,Zh Rv]⟩,by omega⟩
      ·
       have Rz:¬(p.u≤p.unit i∧(k<p.u∨k=p.w)):=fun h9=>by have:=iv.2 h9;simp[this]at hb
       refine au ?_;refine ag [3,4,11,12,20,25,26,100,101,112,113] rfl ?_;refine av rfl ?_;refine aD rfl rfl ⟨by omega,by omega⟩ ?_;refine vr 1 ?_;refine aq ?_;exact⟨i+1,f2,o2,by omega,an,hV,fun h9=>⟨(hF h9).1,by rw[(hF h9).2,Zi Rz]⟩,by omega⟩
    ·
     have aQ:p.lp.m≤i:=by simpa using hb
     obtain rfl:i=p.lp.m:=by omega
     rw[Zj]at hF;refine aU ?_;refine ag [3,4,11,12,20,25,100,101] rfl ?_;refine av rfl ?_;refine aD rfl rfl ⟨by omega,by omega⟩ ?_;refine vr 1 ?_;refine aq ?_
     exact⟨k+1,f2,o2,by omega,an,hV,fun h9 j hj=>by
      by_cases ej:j=k
      ·subst ej;exact(hF h9).2
      ·exact(hF h9).1 j (by omega),by omega⟩
   ·
    have eX:p.w+1≤k:=by simp at hb;omega
    obtain rfl:k=p.w+1:=by omega
    have hzE:=Q1 rG;have Rr:oI uS (rem H7 (G.on (z::G.top)).gs) H7 z (aH f (p.w+1)):=⟨_,_,pV,hzE⟩;refine aU ?_;refine ag [3,4,11,12,20,25] rfl ?_;refine ab ?_;refine vr 3 ?_;refine aS ae rfl rfl rfl ?_;refine aN ae rfl rfl rfl (hY.q.iF) ?_;refine vr 1 ?_;refine dI Tryz.underlying158 Ca rfl rfl rfl rfl rfl rfl rfl ?_;intro gb bD;obtain⟨tT,rU⟩:=hY.q.fresh (e:=whole [.slice (some ⟨z,0,none⟩) (p.w+1) (p.w+1)] 161) bD;have Rs:oI uS (rem (ins H7 gb (whole [.slice (some ⟨z,0,none⟩) (p.w+1) (p.w+1)] 161)) (G.on (z::G.top)).gs) (ins H7 gb (whole [.slice (some ⟨z,0,none⟩) (p.w+1) (p.w+1)] 161)) z (aH f (p.w+1)):=Rr.le rU (a7 _ _ fun(e9:z=gb)=>by rw[←e9,pV]at bD;cases bD);refine eN Tryz.underlying158 Ca rfl rfl tT.cT.rows (eZ _ _ _ _ _ _) rfl (AQ _ _ _) (by omega) (by omega) ?_;intro v8 H8 ny;obtain⟨A8,c8,rfl⟩:=ny.own.form;rw[show iH (G.on (z::G.top)).rg (p.w+1)++eT [Value.slice (some ⟨z,0,none⟩) (p.w+1) (p.w+1)]=iH (G.rg ++ [(z,p.w+1)]) (p.w+1)from Zk]at ny;obtain⟨eW,dX,uZ⟩:=tT.more (G:=G) hq.gt nu Rs ny;have dX:=hY.le.trans (rU.trans dX);obtain⟨M9,wJ⟩:∃M9,M9=(fun i=>if i=p.lp.m then f else dG p i):=⟨_,rfl⟩;rw[←wJ]at eW;obtain⟨G9,nz⟩:∃G9,G9=G.more G.top z (p.w+1) A8 c8 p.lp.m:=⟨_,rfl⟩
    rw[←nz]at eW dX
    have fM:Lf o1 o1 (lK p) M9 p.unit p.lp.m (p.w+1) (if o1 then none else some (wD M9 p.unit p.lp.m p.w)):=by
     cases o1 with
     | true=>rfl
     | false=>
      refine⟨rfl,rfl,YU bg (fun i hi j hj=>by rw[wJ];show (if i=p.lp.m then f else dG p i) j=_;rw[if_neg (by omega)]) (fun j hj=> ?_),Ls⟩
      have e7:qB p M9 j=qB p (dG p) j:=by
       unfold qB
       split
       ·
        congr 1
        refine eO fun i hi=> ?_;rw[wJ]
        show (if _ then(if i=p.lp.m then f else dG p i) j else 0)=_
        rw[if_neg (show ¬i=p.lp.m by omega)]
       ·rfl
      rw[e7,←hf rfl j (by omega),wJ]
      show (if p.lp.m=p.lp.m then f else _) j=_
      rw[if_pos rfl]
    have aiK:∀T,(if o1 then none else some (wD M9 p.unit p.lp.m p.w))=some T→Acc (ao.Step p.u) T:=fun T hT=>by
     cases o1 with
     | true=>cases hT
     | false=>cases hT;exact fM.2.2.1.acc
    have RA:∀i,i<p.lp.m→p.unit i<p.w+1:=fun i hi=>Nat.lt_succ_of_lt (nx p hi);refine vr 1 ?_;refine aS ae rfl rfl rfl ?_;obtain⟨ti,aj,ak⟩:=IJ;refine ly (g:=g) (o:=0) (.inl rfl) rfl uZ rfl (by show 0+1≤3;omega) aj ak rfl rfl rfl rfl ?_;refine aa [3,4,11,12,20] ?_;refine ab ?_;refine vr 2 ?_;refine aw rfl rfl (YH eW (by omega) (by omega) (by omega) (fun T r s=>lK.step) fM aiK RA) ?_;rintro _ pj ⟨DB,LB,o10,BG,rfl,nE,oE,aiL,RB⟩;have yT:=dX.trans oE;refine aa [3,4,11,12,20] ?_;refine al ?_;refine ab ?_;refine vr 2 ?_;refine aS ae rfl rfl rfl ?_;refine aN ae rfl rfl rfl (nE.Qx) ?_;refine aa [3,4,11,12,20,173] ?_;refine aB rfl (fun hb=> ?_) (fun hb=> ?_)
    ·
     skip
     refine ab ?_;refine vr 3 ?_;refine aa [8,9,10] ?_;refine az ⟨.inr rfl,_,.tmp rfl (.tmp rfl (.tmp rfl (.nil))),?_⟩;exact⟨0,.slice none 0 0,false,rfl,cE.trans (dy.trans (yT.trans (bG _ _))),fun h9=>by cases h9⟩
    ·
     have hb:o10=false:=by simpa using hb
     subst hb;obtain⟨_,T,hT,iI,CA,RD⟩:=aiL rfl
     have HJ:∀j,j<p.u→0≤T.c j:=fun j hj=>by
      cases BG with
      | true=>rw[←iI.ec j (by omega)];exact CA rfl j hj
      | false=>
       obtain⟨s,k1,k2,k3⟩:=RD rfl;exact(hT.YS k1 (by rw[←iI.ec s (by omega)];exact k2) fun i hi=>by rw[iI.em]at hi;rw[←iI.eA i hi s (by omega)];exact k3 i hi).elim
     obtain⟨pm,rO⟩:=nE.cT.get (Nat.lt_succ_self p.lp.m);obtain⟨xm,sm,By,Bz⟩:=nE.row rO;obtain⟨alh,uN,Zr,yU⟩:=nE.rk;obtain⟨nm,dm,hfm,sB,i1,i2,i3,i4,B6⟩:=ma Bz (show p.w<p.w+1 by omega);refine au ?_;refine ag [3,4,11,12,20] rfl ?_;refine al ?_;refine bJ .bF [0,1,2,3,4,5,6,7,8,9,10,11,12,13,14,15,16,17] follows (ib [0,1,3,7,0,16,48,112,240,496,1023,2047,0,4096,16383,32767,65535,131071] (by kernel_rfl)) ?_;refine vr 2 ?_;refine aS ae rfl rfl rfl ?_;refine aN ae rfl rfl rfl (nE.iF) ?_;refine vr 2 ?_;refine aS ae rfl rfl rfl ?_;refine aN ae rfl rfl rfl (nE.iF) ?_;refine vr 1 ?_;refine cP rfl rfl ⟨by omega,by omega⟩ ?_;refine aM ae rfl rfl rfl rfl rfl (Zr) (by rw[show (((p.lp.m+1:Nat):Int)-1).toNat=p.lp.m by omega];exact yU _ pm rO) (by omega) (by omega) fun _=> ?_;refine vr 1 ?_;refine cP rfl rfl ⟨by omega,by omega⟩ ?_;refine oH ae rfl rfl rfl rfl rfl rfl rfl (dF By) (by rw[show (((p.w+1:Nat):Int)-1).toNat=p.w by omega];exact sB 0 _ rfl) (by omega) (by omega) fun _ _=> ?_;refine vr 1 ?_;refine aa [3,4,11,12,20,191] ?_;refine aB rfl (fun hb=> ?_) (fun hb=> ?_)
     ·
      have hb:nm≠0:=by simpa using hb
      have zQ:p.lp.p9:=hT.inf bg HJ (by rw[←iI.ec _ (Nat.lt_succ_self _),B6];exact fun h9=>hb ((tr i3).1 h9));refine ab ?_;refine vr 3 ?_;refine aa [8,9,10] ?_;refine az ⟨.inr rfl,_,.tmp rfl (.tmp rfl (.tmp rfl (.nil))),?_⟩;exact⟨2,.slice none 0 0,true,rfl,cE.trans (dy.trans (yT.trans (bG _ _))),fun _=> .inr ⟨by decide,.inr (.inl ⟨rfl,zQ,rfl⟩)⟩⟩
     ·
      have hb:nm=0:=by simpa using hb
      have RE:iJ p 0 T:=hT.clean HJ (by rw[←iI.ec _ (Nat.lt_succ_self _),B6];exact(tr i3).2 hb);obtain⟨im,GP,wu,rL,ali⟩:=nE.less;refine au ?_;refine ag [3,4,11,12,20] rfl ?_;refine bJ .fV [0,1,2,3,4,5,6,7,8,9,10,11,12,13,14] follows (by kernel_rfl) ?_;refine vr 3 ?_;refine aS ae rfl rfl rfl ?_;refine aN ae rfl rfl rfl (nE.iF) ?_;refine vr 2 ?_;refine aS ae rfl rfl rfl ?_;refine aN ae rfl rfl rfl (nE.iF) ?_;refine vr 1 ?_;refine cP rfl rfl ⟨by omega,by omega⟩ ?_;rw[show ((p.lp.m+1:Nat):Int)-1=((p.lp.m:Nat):Int) by omega];refine wZ ae rfl rfl (.inl ⟨rfl,rfl⟩) (.inr ⟨_,_,rfl,rfl⟩) (by omega) (by omega) ?_;rw[zw,Nat.sub_zero,Nat.sub_zero];refine vr 1 ?_;refine aS ae rfl rfl rfl ?_;obtain⟨ti,aj,ak⟩:=IJ;refine ly (g:=g) (o:=0) (.inr rfl) rfl nE.st rfl (by show 0+1≤3;omega) aj ak rfl rfl rfl rfl ?_;refine aa [3,4,11,12,20] ?_;refine Qs GP ?_;have Zs:=yT.trans rL;clear GP Bz hfm sB By Zr yU uN;obtain⟨gQ,aiM⟩:∃gQ,gQ=G9.less p.lp.m:=⟨_,rfl⟩;rw[←aiM]at wu Zs;refine al ?_;obtain⟨LC,LD,rh,An⟩:=wu.rT;refine ab ?_;refine vr 2 ?_;refine aS ae rfl rfl rfl ?_;refine aN ae rfl rfl rfl (show cell _ _=some (.slice LC p.lp.m LD)from by rw[←rh];exact wu.l8) ?_
      refine vr 2 ?_;refine aa [3,4,11,12,20,210,211] ?_;refine aC ?_;refine pW (fun(i:Nat)(M1:Nat→Nat→Rat)(B1:Nat→Nat)(o1:Bool)=>p.lp.m-i) (fun(i:Nat)(M1:Nat→Nat→Rat)(B1:Nat→Nat)(o1:Bool)=>put (put (put (put (put (put (put (emp) 3 (.val (.int .i64 (p.u:Int)))) 4 (.val (.pointer (some ⟨g4,0,none⟩)))) 11 (.val (.pointer (some ⟨g,0,none⟩)))) 12 (.val (.int .i64 ((p.w+1:Nat):Int)))) 20 (.val (.slice A5 c.length c5))) 210 (.val (.int .i64 (p.lp.m:Int)))) 211 (.val (.int .i64 (i:Int)))) (fun(i:Nat)(M1:Nat→Nat→Rat)(B1:Nat→Nat)(o1:Bool) H'=>QV o1 H' g gQ p.lp.m (p.w+1) p.lp.m M1 B1∧Heap.le (rem H5 G.gs) (rem H' gQ.gs)∧(∀q,q<p.lp.m→B1 q<p.w+1)∧(o1=false→∃T,iJ p i T∧gF M1 B1 T p.lp.m (p.w+1))∧i≤p.lp.m) 0 DB LB false (⟨wu,Zs,RB,fun _=>⟨T,RE,iI⟩,Nat.zero_le _⟩) an ?_;rintro i M1 B1 o1 cV ⟨py,iX,RF,Zt,hi⟩;refine ab ?_;refine vr 1 ?_;refine aa [3,4,11,12,20,210,211,212] ?_;refine al ?_;refine aB rfl (fun hb=> ?_) (fun hb=> ?_)
      ·
       have aQ:i<p.lp.m:=by simpa using hb
       obtain⟨pi,cL⟩:=py.cT.get aQ
       have RG:o1=false→(∃T,iJ p i T∧gF M1 B1 T p.lp.m (p.w+1)∧p.u≤B1 i∧∀j,j<0→M1 i j=0)∨(B1 i<p.u∧∃T,iJ p (i+1) T∧gF M1 B1 T p.lp.m (p.w+1)):=fun h9=>by
        obtain⟨T,k1,k2⟩:=Zt h9
        by_cases hu:B1 i<p.u
        ·exact .inr ⟨hu,T,k1.skip (by rw[k2.em];exact aQ) (.inl (by rw[←k2.eB i aQ];exact hu)),k2⟩
        ·exact .inl ⟨T,k1,k2,by omega,fun j hj=>absurd hj (Nat.not_lt_zero _)⟩
       refine au ?_;refine ag [3,4,11,12,20,210,211] rfl ?_;refine al ?_;refine aC ?_;refine ab ?_;refine vr 2 ?_;refine aa [3,4,11,12,20,28,210,211] ?_;refine ab ?_;refine vr 1 ?_;refine aa [3,4,11,12,20,28,29,210,211] ?_;refine aC ?_;refine pW (fun(k:Nat)(M2:Nat→Nat→Rat)(B2:Nat→Nat)(o2:Bool)=>p.u-k) (fun(k:Nat)(M2:Nat→Nat→Rat)(B2:Nat→Nat)(o2:Bool)=>put (put (put (put (put (put (put (put (put (emp) 3 (.val (.int .i64 (p.u:Int)))) 4 (.val (.pointer (some ⟨g4,0,none⟩)))) 11 (.val (.pointer (some ⟨g,0,none⟩)))) 12 (.val (.int .i64 ((p.w+1:Nat):Int)))) 20 (.val (.slice A5 c.length c5))) 28 (.val (.int .i64 (i:Int)))) 29 (.val (.int .i64 (k:Int)))) 210 (.val (.int .i64 (p.lp.m:Int)))) 211 (.val (.int .i64 (i:Int)))) (fun(k:Nat)(M2:Nat→Nat→Rat)(B2:Nat→Nat)(o2:Bool) H'=>QV o2 H' g gQ p.lp.m (p.w+1) p.lp.m M2 B2∧Heap.le (rem H5 G.gs) (rem H' gQ.gs)∧(∀q,q<p.lp.m→B2 q<p.w+1)∧(o2=false→(∃T,iJ p i T∧gF M2 B2 T p.lp.m (p.w+1)∧p.u≤B2 i∧∀j,j<k→M2 i j=0)∨(B2 i<p.u∧∃T,iJ p (i+1) T∧gF M2 B2 T p.lp.m (p.w+1)))∧k≤p.u) 0 M1 B1 o1 (⟨py,iX,RF,RG,Nat.zero_le _⟩) an ?_;rintro k M2 B2 o2 kN ⟨oC,jT,yV,BH,JQ⟩;have Zu:=An oC i aQ;refine al ?_
       by_cases BA:k<p.u
       ·
        skip
        by_cases h2u:p.u≤B2 i
        ·
         obtain⟨ahG,vZ,Yw,Hg⟩:=oC.rk;obtain⟨K8,Yx,yJ,tu⟩:=oC.row cL;obtain⟨nk,dk,LF,hck,j1,j2,j3,j4,dL⟩:=ma tu (show k<p.w+1 by omega);refine ab ?_;refine vr 2 ?_;refine aA true rfl rfl (iz (by omega)) ?_;refine vr 3 ?_;refine aS ae rfl rfl rfl ?_;refine aN ae rfl rfl rfl (show cell _ _=some (.slice LC p.lp.m LD)from by rw[←rh];exact oC.l8) ?_;refine vr 1 ?_;refine aM ae rfl rfl rfl rfl rfl (Zu) (by rw[Int.toNat_natCast];exact gj aQ) (by omega) (by omega) fun _=> ?_;refine vr 1 ?_;refine aA true rfl rfl (qT (by omega)) ?_;refine vr 1 ?_;refine aa [3,4,11,12,20,28,29,210,211,227] ?_;refine cD rfl ?_;refine au ?_;refine ag [3,4,11,12,20,28,29,210,211] rfl ?_;refine al ?_;refine aC ?_;refine ab ?_;refine vr 2 ?_;refine aS ae rfl rfl rfl ?_;refine aN ae rfl rfl rfl (oC.iF) ?_;refine vr 1 ?_;refine aM ae rfl rfl rfl rfl rfl (Yw) (by rw[Int.toNat_natCast];exact Hg i pi cL) (by omega) (by omega) fun _=> ?_;refine vr 1 ?_;refine oH ae rfl rfl rfl rfl rfl rfl rfl (dF yJ) (by rw[Int.toNat_natCast];exact hck 0 _ rfl) (by omega) (by omega) fun _ _=> ?_;refine vr 1 ?_;refine aa [3,4,11,12,20,28,29,210,211,241] ?_
         refine aB rfl (fun hb=> ?_) (fun hb=> ?_)
         ·
          have hb:nk≠0:=by simpa using hb
          have aY:M2 i k≠0:=by rw[dL];exact fun h9=>hb ((tr j3).1 h9)
          refine av rfl ?_;refine vr 3 ?_;refine aw rfl rfl (Yo oC aQ aQ (show k<p.w+1 by omega) aY (by omega) (by omega)) ?_;rintro Yy pH ⟨M3,o3,K9,aiN,uX⟩;refine aq ?_;refine ag [3,4,11,12,20,28,29,210,211] rfl ?_;refine av rfl ?_;refine vr 1 ?_;refine aD rfl rfl ⟨by omega,by omega⟩ ?_;refine vr 1 ?_;refine aq ?_;obtain⟨M5,HK⟩:∃M5:Nat→Nat→Rat,M5=fun q=>if q=p.lp.m then lJ M2 i k p.lp.m else M3 q:=⟨_,rfl⟩
          have HL:∀q,q<p.lp.m→M5 q=M3 q:=fun q hq=>by rw[HK];show (if q=p.lp.m then _ else M3 q)=_;rw[if_neg (by omega)]
          exact⟨k+1,M5,_,o3,by omega,an,K9.BE fun q hq j _=>by rw[HL q hq],jT.trans uX,fun q hq=>by
           show (if q=i then k else B2 q)<_
           split
           ·omega
           ·exact yV q hq,fun h9=>by
           obtain⟨h8,rf⟩:=aiN h9
           rcases BH h8 with ⟨T,k1,k2,k3,k4⟩ | ⟨k1,_⟩
           ·
            refine .inr ⟨by rw[if_pos rfl];exact BA,T.pivot i k,k1.pivot (by rw[k2.em];exact aQ) (by rw[←k2.eB i aQ];exact k3) BA (by rw[←k2.eA i aQ k (by omega)];exact aY),k2.pivot aQ (by omega) fun q hq j hj=> ?_⟩
            by_cases e:q=p.lp.m
            ·
             subst e;rw[HK]
             show (if p.lp.m=p.lp.m then _ else M3 _) j=_
             rw[if_pos rfl]
            ·rw[HL q (by omega)];exact rf q (by omega) j hj
           ·omega,by omega⟩
         ·
          have hb:nk=0:=by simpa using hb
          refine au ?_;refine ag [3,4,11,12,20,28,29,210,211] rfl ?_;refine av rfl ?_;refine vr 1 ?_;refine aD rfl rfl ⟨by omega,by omega⟩ ?_;refine vr 1 ?_;refine aq ?_
          exact⟨k+1,M2,B2,o2,by omega,an,oC,jT,yV,fun h9=>by
           rcases BH h9 with ⟨T,k1,k2,k3,k4⟩ | h8
           ·
            refine .inl ⟨T,k1,k2,k3,fun j hj=> ?_⟩
            by_cases e:j=k
            ·subst e;rw[dL];exact(tr j3).2 hb
            ·exact k4 j (by omega)
           ·exact .inr h8,by omega⟩
        ·
         have hD:o2=false→∃T,iJ p (i+1) T∧gF M2 B2 T p.lp.m (p.w+1):=fun h9=>by
          rcases BH h9 with ⟨T,_,_,k3,_⟩ | h8
          ·omega
          ·exact h8.2
         refine ab ?_;refine vr 2 ?_;refine aA true rfl rfl (iz (by omega)) ?_;refine vr 3 ?_;refine aS ae rfl rfl rfl ?_;refine aN ae rfl rfl rfl (show cell _ _=some (.slice LC p.lp.m LD)from by rw[←rh];exact oC.l8) ?_;refine vr 1 ?_;refine aM ae rfl rfl rfl rfl rfl (Zu) (by rw[Int.toNat_natCast];exact gj aQ) (by omega) (by omega) fun _=> ?_;refine vr 1 ?_;refine aA false rfl rfl (zu (by omega)) ?_;refine vr 1 ?_;refine aa [3,4,11,12,20,28,29,210,211,227] ?_;refine cU rfl ?_;refine aU ?_;refine ag [3,4,11,12,20,210,211] rfl ?_;refine av rfl ?_;refine aD rfl rfl ⟨by omega,by omega⟩ ?_;refine vr 1 ?_;refine aq ?_;exact⟨i+1,M2,B2,o2,by omega,an,oC,jT,yV,hD,by omega⟩
       ·
        have hD:o2=false→∃T,iJ p (i+1) T∧gF M2 B2 T p.lp.m (p.w+1):=fun h9=>by
         rcases BH h9 with ⟨T,k1,k2,k3,k4⟩ | h8
         ·exact⟨T,k1.skip (by rw[k2.em];exact aQ) (.inr fun j hj=>by rw[←k2.eA i aQ j (by omega)];exact k4 j (by omega)),k2⟩
         ·exact h8.2
        refine ab ?_;refine vr 2 ?_;refine aA false rfl rfl (fQ (by omega)) ?_;refine vr 11 ?_;refine aa [3,4,11,12,20,28,29,210,211,227] ?_;refine cU rfl ?_;refine aU ?_;refine ag [3,4,11,12,20,210,211] rfl ?_;refine av rfl ?_;refine aD rfl rfl ⟨by omega,by omega⟩ ?_;refine vr 1 ?_;refine aq ?_;exact⟨i+1,M2,B2,o2,by omega,an,oC,jT,yV,hD,by omega⟩
      ·
       have aQ:p.lp.m≤i:=by simpa using hb
       obtain rfl:i=p.lp.m:=by omega
       have ft:eJ N (rem cV gQ.gs) (.agg #[fv,fN]) p:=hp.le (cE.trans (dy.trans iX));have aiO:=Ht.le yP iX;have nM:p.lp.n≤400:=Zm;refine aU ?_;refine ag [3,4,11,12,20] rfl ?_;have a6:=GX g cV;refine bJ (.cG (kO g cV)) [0,1,2,3,4,5,6,7,8,9,10,11,12,13,14] follows (by kernel_rfl) ?_;refine eh a6 rfl ?_;refine eh a6 rfl ?_;refine lD a6 rfl ?_;refine lE a6 ae rfl rfl rfl ?_;refine jR a6 ae rfl rfl rfl (py.k0) ?_;refine eh a6 rfl ?_;refine GY a6 ae rfl rfl rfl (((Ag.le (dy.trans iX)).kx py.mem).at) ?_;refine eh a6 rfl ?_;refine eh a6 rfl ?_;refine Bq rfl rfl (ahZ py ft aiO dA (by omega) RF (by omega) (by omega)) (fun v H9 nC=>by obtain⟨_,_,_,_,k1,_⟩:=nC;exact py.fy k1.il k1.q.st) ?_;rintro QL lf ⟨z5,f5,o5,rfl,pK,hF5⟩;have a6:=py.fy pK.il pK.q.st;obtain⟨z5s,Zv,aiP⟩:=pK.row;have aiQ:oI uS (rem lf (gQ.on (z5::gQ.top)).gs) lf z5 (aH f5 (p.w+1)):=⟨_,_,Zv,aiP⟩;refine CW Tryz.underlying158 Ca rfl rfl ?_;intro gb bD;obtain⟨tT,rU⟩:=pK.q.fresh (e:=whole [.slice (some ⟨z5,0,none⟩) (p.w+1) (p.w+1)] 161) bD;have aiR:oI uS (rem (ins lf gb (whole [.slice (some ⟨z5,0,none⟩) (p.w+1) (p.w+1)] 161)) (gQ.on (z5::gQ.top)).gs) (ins lf gb (whole [.slice (some ⟨z5,0,none⟩) (p.w+1) (p.w+1)] 161)) z5 (aH f5 (p.w+1)):=aiQ.le rU (a7 _ _ fun(e9:z5=gb)=>by rw[←e9,Zv]at bD;cases bD)
       have a6:(Mode.cG (kO g cV)).fy (ins lf gb (whole [.slice (some ⟨z5,0,none⟩) (p.w+1) (p.w+1)] 161)):=fun ad u hu=>cF (Heap.bI _ bD) (a6 ad u hu);refine CX Tryz.underlying158 Ca rfl rfl tT.cT.rows (eZ _ _ _ _ _ _) rfl (AQ _ _ _) (by omega) (by omega) a6 ?_;intro Zw BI DC;have a6:(Mode.cG (kO g cV)).fy BI:=fun ad u hu=>cF DC.le (a6 ad u hu);obtain⟨RH,RI,rfl⟩:=DC.own.form;obtain⟨KL,uQ,aiS⟩:=tT.more (G:=gQ) py.gt pK.ne aiR (LA DC);have uQ:=(iX.trans pK.le).trans (rU.trans uQ);obtain⟨u0,BJ⟩:∃u0,u0=(fun i=>if i=p.lp.m then f5 else M1 i):=⟨_,rfl⟩;rw[←BJ]at KL
       have Dm:Lf o5 o5 (nD p c) u0 B1 p.lp.m (p.w+1) (if o5 then none else some (wD u0 B1 p.lp.m p.w)):=by
        cases o5 with
        | true=>rfl
        | false=>
         obtain⟨k1,k2⟩:=hF5 rfl;obtain⟨T5,k3,k4⟩:=Zt k1;refine⟨rfl,rfl,YW k3 k4 (fun i hi j hj=>by rw[BJ];show (if i=p.lp.m then f5 else M1 i) j=_;rw[if_neg (by omega)]) (fun j hj=> ?_),Ls⟩;rw[←k2 j (by omega),BJ]
         show (if p.lp.m=p.lp.m then f5 else _) j=_
         rw[if_pos rfl]
       have aiT:∀T,(if o5 then none else some (wD u0 B1 p.lp.m p.w))=some T→Acc (ao.Step p.u) T:=fun T hT=>by
        cases o5 with
        | true=>cases hT
        | false=>cases hT;exact Dm.2.2.1.acc
       refine lD a6 rfl ?_;refine lE a6 ae rfl rfl rfl ?_;obtain⟨ti,aj,ak⟩:=IJ;refine AA (g:=g) (o:=0) rfl aiS rfl (by show 0+1≤3;omega) aj ak rfl rfl rfl rfl ?_;refine aa [3,4,11,12] ?_;refine ab ?_;refine vr 2 ?_;refine aw rfl rfl (YH KL (by omega) (by omega) (by omega) (fun T r s=>nD.step) Dm aiT RF) ?_;rintro _ RJ ⟨RK,RL,o18,HM,rfl,EA,RM,aiU,LG⟩;have wK:=uQ.trans RM;refine vr 1 ?_;refine aa [4,11,12,30] ?_;refine al ?_;refine ab ?_;refine vr 2 ?_;refine aS ae rfl rfl rfl ?_;refine aN ae rfl rfl rfl (EA.Qx) ?_;refine aa [4,11,12,30,267] ?_;refine aB rfl (fun hb=> ?_) (fun hb=> ?_)
       ·
        skip
        refine ab ?_;refine vr 3 ?_;refine aa [8,9,10] ?_;refine az ⟨.inr rfl,_,.tmp rfl (.tmp rfl (.tmp rfl (.nil))),?_⟩;exact⟨0,.slice none 0 0,false,rfl,cE.trans (dy.trans (wK.trans (bG _ _))),fun h9=>by cases h9⟩
       ·
        have hb:o18=false:=by simpa using hb
        subst hb;obtain⟨_,T2,BK,qE,RN,RO⟩:=aiU rfl;have Nc:eJ N (rem RJ _) (.agg #[fv,fN]) p:=hp.le (cE.trans (dy.trans wK));refine au ?_;refine ag [4,11,12,30] rfl ?_;refine ab ?_;refine vr 1 ?_;refine aa [4,8,11,12,30] ?_;refine al ?_;refine ab ?_;refine vr 1 ?_;refine aa [4,8,11,12,268] ?_;refine aB rfl (fun hb=> ?_) (fun hb=> ?_)
        ·
         have hb:HM=true:=by simpa using hb
         have RP:∀j,j<p.u→0≤T2.c j:=fun j hj=>by rw[←qE.ec j (by omega)];exact RN hb j hj
         refine av rfl ?_;refine vr 1 ?_;refine aq ?_;refine ag [4,8,11,12] rfl ?_;refine ab ?_;refine vr 2 ?_;refine wV ae rfl rfl rfl (((Ag.le (dy.trans wK)).le (bG _ _)).at) ?_;refine vr 1 ?_;refine aw rfl rfl (YQ EA Nc (by omega) (by omega) LG (by omega) (by omega)) ?_;rintro RQ P2 ⟨HN,HO,Zx⟩;refine vr 3 ?_;refine aa [8,9,10] ?_;refine az ⟨.inr rfl,_,.tmp rfl (.tmp rfl (.tmp rfl (.nil))),?_⟩;exact⟨1,RQ,true,rfl,cE.trans (dy.trans ((wK.trans (bG _ _)).trans HN)),fun _=> .inl ⟨rfl,_,HO,aW _ _,BK.opt bg dA RP qE,fun q hq=>by obtain⟨j,hj,rfl⟩:=Bc hq;exact Zx j hj⟩⟩
        ·
         have hb:HM=false:=by simpa using hb
         obtain⟨s2,k1,k2,k3⟩:=RO hb;refine au ?_;refine ag [4,8,11,12] rfl ?_;refine ab ?_;refine vr 2 ?_;refine wV ae rfl rfl rfl (((Ag.le (dy.trans wK)).le (bG _ _)).at) ?_;refine vr 1 ?_;refine aw rfl rfl (YQ EA Nc (by omega) (by omega) LG (by omega) (by omega)) ?_;rintro RQ P2 ⟨HN,HO,Zx⟩;refine vr 3 ?_;refine aa [8,9,10] ?_;refine az ⟨.inr rfl,_,.tmp rfl (.tmp rfl (.tmp rfl (.nil))),?_⟩;exact⟨3,RQ,true,rfl,cE.trans (dy.trans ((wK.trans (bG _ _)).trans HN)),fun _=> .inr ⟨by decide,BK.YX bg dA k1 (by rw[←qE.ec s2 (by omega)];exact k2) fun i hi=>by rw[qE.em]at hi;rw[←qE.eA i hi s2 (by omega)];exact k3 i hi⟩⟩
end Go.ar
