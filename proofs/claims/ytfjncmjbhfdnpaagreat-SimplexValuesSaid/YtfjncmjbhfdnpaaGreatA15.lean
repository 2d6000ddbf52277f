/- Part 15 of the proof: Sv. -/
import Derived.Test.YtfjncmjbhfdnpaaGreatA14
set_option linter.unusedVariables false
namespace Go.ar
open Go.Proofs Num Lp
theorem ajk{H:Heap}{p:Prg}{c:List Rat}{pv cv:Value}{N L:Nat}(bg:p.Ok)(dA:c.length=p.free.length)(hp:eJ N H pv p)(hc:aR (ck N) 3 H cv c)(hN:N≤400000000)(hf:Fits p c L)(hL:L≤99999998):
 Fn Tryz.prog 13 #[pv,cv] H (ajj p c L H):=by
 obtain⟨fv,fN,rfl,eo,ep⟩:=id hp
 have oZ:=F8 p
 have Rm:=bg.gM
 have Rn:=bg.rows
 have aiF:p.lp.m≤800:=Rn
 have Zm:p.lp.n≤400:=Rm
 have l4:=fg p
 have aiG:=l5 p
 have ZR:=hf.one;refine aZ (args:=[_,_]) Tryz.func13 rfl rfl Tryz.ntmps13 rfl rfl fun w0=> ?_;refine ag [0,1] rfl ?_;refine ab ?_;refine bS rfl rfl ?_;refine vr 1 ?_;refine bt cR rfl ?_;refine vr 1 ?_;refine aa [1,2,5] ?_;refine ab ?_;refine vr 1 ?_;refine aw rfl rfl (ai5 bg hp hN) ?_;rintro _ H1 ⟨G,rfl,RT,kG,bH⟩;obtain⟨Ab,cb,cY,ajl,ga⟩:=kG.tab;rw[cY];obtain⟨W,hW⟩:∃W,W=p.w+1:=⟨_,rfl⟩;refine vr 3 ?_;refine bt II rfl ?_;obtain⟨ti,aj,ak⟩:=MN;refine aJ (.inl ⟨rfl,rfl⟩) rfl rfl rfl aj ak rfl rfl rfl ?_;refine vr 1 ?_;refine aa [1,2,5,7,8] ?_;refine ab ?_;refine aw rfl rfl (Fn.kq kG.ne (ry (n:=0) (by decide) (by decide))) ?_;rintro v2 H2 LR;obtain⟨t9,rfl,eW⟩:=LR.val;rw[show ((0:Int):Rat)=0 from rfl]at eW;have dQ:=kG.kept LR.kept;have bh:=bH.trans LR.kept.le;have RZ:=bh.trans (bG _ _);refine bt cR rfl ?_;obtain⟨ti,aj,ak⟩:=a8;refine aJ (.inl ⟨rfl,rfl⟩) rfl rfl rfl aj ak rfl rfl rfl ?_;refine aa [1,2,5,7,8,9] ?_;refine al ?_;refine ab ?_;refine vr 4 ?_;refine aw rfl rfl (aiE bg dA (hp.le RZ) (hc.le (ik N) RZ) (by omega) (ajl.le LR.le) (fun i hi j hj=>ZP bg hf hi hj) (by omega)) ?_;rintro _ H3b ⟨st,xv,b,rfl,R0,hQ⟩
 have LS:=RZ.trans R0;refine vr 7 ?_;refine aa [1,2,5,7,8,9,10,11,12] ?_;refine ab ?_;refine vr 1 ?_;refine aa [1,2,5,7,8,9,10,11,36] ?_;refine aB rfl (fun hb=> ?_) (fun hb=> ?_)
 ·
  have hQ:=hQ (by simpa using hb);refine al ?_;refine ab ?_;refine vr 2 ?_;refine aa [1,5,9,10,11,38] ?_;refine aB rfl (fun hb=> ?_) (fun hb=> ?_)
  ·
   have cQ:¬st=1:=by simpa using hb
   have hS:rS p c st 0:=by
    rcases hQ with ⟨h9,_⟩ | ⟨_,h9⟩
    ·exact absurd h9 cQ
    ·exact h9
   refine bJ .bF [0,1,2,3,4,5] follows (by kernel_rfl) ?_;refine vr 4 ?_;obtain⟨ti,aj,ak⟩:=a8;refine aJ (.inl ⟨rfl,rfl⟩) rfl rfl rfl aj ak rfl rfl rfl ?_;refine vr 1 ?_;refine aa [4,5,6] ?_;obtain⟨HT,tz,tA⟩:=a8;refine az ⟨.inr rfl,_,.tmp rfl (.agg rfl Tryz.underlying31 tz tA (.tmp rfl (.nil))),?_⟩;exact⟨LS,st,t9,xv,0,rfl,hS,(eW.le (bG _ _)).le R0,HS hf hS,fun h9=>absurd h9 cQ⟩
  ·
   have cQ:st=1:=by simpa using hb
   obtain⟨x,hx,cB,hS,ZS⟩:∃x,aR bT 3 H3b xv x∧x.length=p.free.length∧rS p c 1 (cj p.free.length (fn c) (fn x))∧∀q,q∈x→aG q≤17:=by
    rcases hQ with ⟨_,h9⟩ | ⟨h9,_⟩
    ·exact h9
    ·exact absurd cQ h9
   subst cQ;refine au ?_;refine ag [1,5,10,11] rfl ?_;refine ab ?_;refine vr 3 ?_;refine aw rfl rfl (Za (N:=400000000) ((hc.le (ik N) LS).ZQ hN) (hx.qx fun q hq=>Nat.le_trans (ZS q hq) (by decide)) (by omega) (by omega) (Nat.le_refl _)) ?_;rintro _ H4 ⟨cE,t4,rfl,ct⟩;rw[dA]at ct;refine vr 2 ?_;obtain⟨ti,aj,ak⟩:=a8;refine aJ (.inl ⟨rfl,rfl⟩) rfl rfl rfl aj ak rfl rfl rfl ?_;refine vr 1 ?_;refine aa [4,5,6] ?_;obtain⟨HT,tz,tA⟩:=a8;refine az ⟨.inr rfl,_,.tmp rfl (.agg rfl Tryz.underlying31 tz tA (.tmp rfl (.nil))),?_⟩;exact⟨LS.trans cE,1,t4,xv,_,rfl,hS,ct,HS hf hS,fun _=>⟨x,hx.le fK cE,cB,fun q hq=>Nat.le_trans (ZS q hq) (by omega),rfl⟩⟩
 ·
  obtain⟨H3,gV,de⟩:=aid G.gs R0 dQ.ne;refine Qs gV ?_;clear hQ LS;have lv:=dQ.kept de;have dC:=bh.trans de.le;have eW:=eW.le de.le;rw[←hW]at lv;refine au ?_;refine ag [1,2,5,7,8,9] rfl ?_;refine ab ?_;refine vr 1 ?_;refine aD rfl rfl ⟨by omega,by omega⟩ ?_;refine vr 1 ?_;refine aa [1,2,5,7,8,9,13] ?_;refine kC (fun(a:Nat)=>put (put (put (put (put (put (put (emp) 1 (.val (cv))) 2 (.box [fv,fN])) 5 (.box [.bool false,.slice none 0 0,.slice none 0 0])) 7 (.box [.slice G.Ar p.lp.m G.cr,.slice Ab p.lp.m cb])) 8 (.val (.int .i64 (p.u:Int)))) 9 (.box [.bool t9.f,.slice t9.A1 t9.m1 t9.c1,.slice t9.A2 t9.m2 t9.c2])) 13 (.val (.int .i64 (a:Int)))) (fun(a:Nat) H'=>H'=H3∧W=a) ?_ ?_
  ·
   refine ab ?_;refine vr 4 ?_;refine aa [1,2,5,7,8,9,13,52] ?_;refine aB rfl (fun hb=> ?_) (fun hb=> ?_)
   ·
    have vw:0<p.lp.m:=by simp at hb;omega
    obtain⟨p0,BV⟩:=lv.get vw;refine av rfl ?_;refine vr 2 ?_;refine aM ae rfl rfl rfl rfl rfl (lv.hd) (by show (iH G.rg _)[0]? = _;exact ke (rg:=G.rg) BV) (by omega) (by omega) fun _=> ?_;refine vr 2 ?_;refine aq ?_;exact⟨W,an,rfl,rfl⟩
   ·
    have vw:p.lp.m=0:=by simp at hb;omega
    have e9:p.w=p.u:=by show aV _ _ _ p.lp.m=_;rw[vw];rfl
    refine au ?_;exact⟨W,an,rfl,rfl⟩
  ·
   rintro a H4 ⟨e4,rfl⟩;rw[e4];clear e4 H4;refine ab ?_;refine vr 1 ?_;refine ig Tryz.underlying26 cR rfl rfl rfl (by omega) (by omega) (by omega) (by omega) ?_;intro z iV;rw[Int.toNat_natCast];have BL:=lv.gu.start (C:=lj W (fun _=>0) 0) (xs:=du [.bool false,.slice none 0 0,.slice none 0 0] (W*3)) iV LK;refine vr 1 ?_;refine aa [1,2,5,7,8,9,13,14] ?_;refine al ?_;refine ab ?_;refine vr 3 ?_;refine aa [1,2,5,7,8,9,13,14,61,62] ?_;refine aC ?_;refine gy (fun(k:Nat)(f:Nat→Rat)=>W-k) (fun(k:Nat)(f:Nat→Rat)=>put (put (put (put (put (put (put (put (put (put (emp) 1 (.val (cv))) 2 (.box [fv,fN])) 5 (.box [.bool false,.slice none 0 0,.slice none 0 0])) 7 (.box [.slice G.Ar p.lp.m G.cr,.slice Ab p.lp.m cb])) 8 (.val (.int .i64 (p.u:Int)))) 9 (.box [.bool t9.f,.slice t9.A1 t9.m1 t9.c1,.slice t9.A2 t9.m2 t9.c2])) 13 (.val (.int .i64 (W:Int)))) 14 (.val (.slice (some ⟨z,0,none⟩) W W))) 61 (.val (.int .i64 (W:Int)))) 62 (.val (.int .i64 (k:Int)))) (fun(k:Nat)(f:Nat→Rat) H'=>SZ (lj W f k) (rem H3 G.gs) H' G p.lp.m W p.lp.m (dG p) p.unit (.slice none 0 0) [] z∧(∀j,j<k→f j=qB p (dG p) j)∧k≤W) 0 (fun _=>0) (⟨BL,fun j hj=>absurd hj (Nat.not_lt_zero _),Nat.zero_le _⟩) an ?_;rintro k f H5 ⟨hS,LF,hk⟩;obtain⟨xs,hx,hC⟩:=hS.row;have cB:=HP hC hk;refine ab ?_
   refine vr 1 ?_;refine aa [1,2,5,7,8,9,13,14,61,62,63] ?_;refine al ?_;refine aB rfl (fun hb=> ?_) (fun hb=> ?_)
   ·
    have eX:k<W:=by simpa using hb
    have tS:=hS.set (.refl _ _) (LI (f:=bQ f k 0) (ajh hC (fun j hj=>oJ (by omega)) hk) eX (by rw[qy];exact(show bT _ [_,_,_] _ from eW.le hS.le)));refine au ?_;refine ag [1,2,5,7,8,9,13,14,61,62] rfl ?_;refine al ?_;refine aC ?_;refine ab ?_;refine vr 2 ?_;refine aa [1,2,5,7,8,9,13,14,15,61,62] ?_;refine ab ?_;refine vr 3 ?_;obtain⟨ti,aj,ak⟩:=a8;refine cM (.inl rfl) ae rfl rfl rfl (by omega) (by omega) (hx) rfl (by show 0+W*3≤xs.length;omega) aj ak (fun _=>rfl) rfl rfl rfl fun _=> ?_;refine aa [1,2,5,7,8,9,13,14,15,61,62] ?_;rw[oP,Int.toNat_natCast];refine ab ?_;refine vr 4 ?_;refine aa [1,2,5,7,8,9,13,14,15,61,62,71,72] ?_;refine aC ?_;refine gy (fun(i:Nat)(f2:Nat→Rat)=>p.lp.m-i) (fun(i:Nat)(f2:Nat→Rat)=>put (put (put (put (put (put (put (put (put (put (put (put (put (emp) 1 (.val (cv))) 2 (.box [fv,fN])) 5 (.box [.bool false,.slice none 0 0,.slice none 0 0])) 7 (.box [.slice G.Ar p.lp.m G.cr,.slice Ab p.lp.m cb])) 8 (.val (.int .i64 (p.u:Int)))) 9 (.box [.bool t9.f,.slice t9.A1 t9.m1 t9.c1,.slice t9.A2 t9.m2 t9.c2])) 13 (.val (.int .i64 (W:Int)))) 14 (.val (.slice (some ⟨z,0,none⟩) W W))) 15 (.val (.int .i64 (k:Int)))) 61 (.val (.int .i64 (W:Int)))) 62 (.val (.int .i64 (k:Int)))) 71 (.val (.int .i64 (p.lp.m:Int)))) 72 (.val (.int .i64 (i:Int)))) (fun(i:Nat)(f2:Nat→Rat) H'=>SZ (lj W f2 (k+1)) (rem H3 G.gs) H' G p.lp.m W p.lp.m (dG p) p.unit (.slice none 0 0) [] z∧(∀j,j<k→f2 j=qB p (dG p) j)∧f2 k=qD p (dG p) k i∧i≤p.lp.m) 0 (bQ f k 0) (⟨tS,fun j hj=>by rw[oJ (by omega)];exact LF j hj,by rw[qy,Zg],Nat.zero_le _⟩) an ?_
    rintro i f2 H6 ⟨hV,R1,HU,hi⟩;obtain⟨ws,rQ,mX⟩:=hV.row;have oZ:=HP mX (show k+1≤W by omega);refine ab ?_;refine vr 1 ?_;refine aa [1,2,5,7,8,9,13,14,15,61,62,71,72,73] ?_;refine al ?_;refine aB rfl (fun hb=> ?_) (fun hb=> ?_)
    ·
     have aQ:i<p.lp.m:=by simpa using hb
     have wH:=ga (t:=z::(aE (.slice none 0 0)++G.top)) (by rw[←hW];exact hV.q) i aQ;refine au ?_;refine ag [1,2,5,7,8,9,13,14,15,61,62,71,72] rfl ?_;refine al ?_;refine aC ?_;refine ab ?_;refine vr 2 ?_;refine aa [1,2,5,7,8,9,13,14,15,16,61,62,71,72] ?_;refine kC (fun(b0:Bool)=>put (put (put (put (put (put (put (put (put (put (put (put (put (put (put (emp) 1 (.val (cv))) 2 (.box [fv,fN])) 5 (.box [.bool false,.slice none 0 0,.slice none 0 0])) 7 (.box [.slice G.Ar p.lp.m G.cr,.slice Ab p.lp.m cb])) 8 (.val (.int .i64 (p.u:Int)))) 9 (.box [.bool t9.f,.slice t9.A1 t9.m1 t9.c1,.slice t9.A2 t9.m2 t9.c2])) 13 (.val (.int .i64 (W:Int)))) 14 (.val (.slice (some ⟨z,0,none⟩) W W))) 15 (.val (.int .i64 (k:Int)))) 16 (.val (.int .i64 (i:Int)))) 61 (.val (.int .i64 (W:Int)))) 62 (.val (.int .i64 (k:Int)))) 71 (.val (.int .i64 (p.lp.m:Int)))) 72 (.val (.int .i64 (i:Int)))) 92 (.val (.bool b0))) (fun(b0:Bool) H'=>H'=H6∧(b0=true↔p.u≤p.unit i∧(k<p.u∨k=p.w))) ?_ ?_
     ·
      by_cases h1:p.u≤p.unit i
      ·
       skip
       by_cases h2:k<p.u
       ·
        skip
        refine av rfl ?_;refine vr 3 ?_;refine aM ae rfl rfl rfl rfl rfl (wH) (by rw[Int.toNat_natCast];exact gj aQ) (by omega) (by omega) fun _=> ?_;refine vr 1 ?_;refine aA true rfl rfl (qT (by omega)) ?_;refine vr 3 ?_;refine aA true rfl rfl (iz (by omega)) ?_;refine vr 7 ?_;refine aq ?_;exact⟨_,an,rfl,by simp[h1,h2]⟩
       ·
        skip
        by_cases h3:k=p.w
        ·
         skip
         refine av rfl ?_;refine vr 3 ?_;refine aM ae rfl rfl rfl rfl rfl (wH) (by rw[Int.toNat_natCast];exact gj aQ) (by omega) (by omega) fun _=> ?_;refine vr 1 ?_;refine aA true rfl rfl (qT (by omega)) ?_;refine vr 3 ?_;refine aA false rfl rfl (fQ (by omega)) ?_;refine vr 3 ?_;refine cP rfl rfl ⟨by omega,by omega⟩ ?_;refine aA true rfl rfl (fk (by omega)) ?_;refine vr 2 ?_;refine aq ?_;exact⟨_,an,rfl,by simp[h1,h3]⟩
        ·
         skip
         refine av rfl ?_;refine vr 3 ?_;refine aM ae rfl rfl rfl rfl rfl (wH) (by rw[Int.toNat_natCast];exact gj aQ) (by omega) (by omega) fun _=> ?_;refine vr 1 ?_;refine aA true rfl rfl (qT (by omega)) ?_;refine vr 3 ?_;refine aA false rfl rfl (fQ (by omega)) ?_;refine vr 3 ?_;refine cP rfl rfl ⟨by omega,by omega⟩ ?_;refine aA false rfl rfl (gI (by omega)) ?_;refine vr 2 ?_;refine aq ?_;exact⟨_,an,rfl,by simp[h1,h2,h3]⟩
      ·
       skip
       refine av rfl ?_;refine vr 3 ?_;refine aM ae rfl rfl rfl rfl rfl (wH) (by rw[Int.toNat_natCast];exact gj aQ) (by omega) (by omega) fun _=> ?_;refine vr 1 ?_;refine aA false rfl rfl (zu (by omega)) ?_;refine vr 11 ?_;refine aq ?_;exact⟨_,an,rfl,by simp[h1]⟩
     ·
      rintro b0 H9 ⟨e9,iv⟩;rw[e9];clear e9 H9;refine aB rfl (fun hb=> ?_) (fun hb=> ?_)
      ·
       have Rv:=iv.1 (by simpa using hb);obtain⟨pi,cL⟩:=lv.get aQ;obtain⟨xi8,si8,Rw,Rx⟩:=hV.q.qC (G:=G.on _) cL;obtain⟨t5,vP,mK⟩:=aji mX (Nat.lt_succ_self k) (show k+1≤W by omega);obtain⟨t6,x8,qd⟩:=lL Rx eX
       have uB:aG (f2 k)≤2*L:=by rw[HU];exact aje bg hf (by omega)
       have uC:aG (dG p i k)≤L:=ZP bg hf aQ (by omega);refine dZ .fV [0,1,2,3,4,5,6,7,8,9,10,11,12,13,14,15,16] follows (ib [0,0,0,0,12,28,0,64,0,448,960,0,4032,8128,16380,32767,65535] (by kernel_rfl)) ?_;refine vr 4 ?_;refine bR (vs:=[.bool t5.f,.slice t5.A1 t5.m1 t5.c1,.slice t5.A2 t5.m2 t5.c2]) ae rfl rfl rfl rfl (dF rQ) rfl (by decide) (by rw[Int.toNat_natCast];exact mK) (by omega) (by omega) fun _=> ?_;refine vr 3 ?_;refine aM ae rfl rfl rfl rfl rfl (hV.q.hd) (by rw[Int.toNat_natCast];exact ke (rg:=G.rg) (W:=_) cL) (by omega) (by omega) fun _=> ?_;refine vr 1 ?_;refine bR (vs:=[.bool t6.f,.slice t6.A1 t6.m1 t6.c1,.slice t6.A2 t6.m2 t6.c2]) ae rfl rfl rfl rfl (dF Rw) rfl (by decide) (by rw[Int.toNat_natCast];exact qd) (by omega) (by omega) fun _=> ?_;refine aO rfl rfl (Fn.kq hV.q.ne (C1 (N:=2*L) ((bK.raw vP).mono uB) ((bK.raw x8).mono (by omega)) (by omega))) (fun _ _ h=>by first | exact h.le | exact h.1) ?_;rintro v8 H8 fU;obtain⟨t8,rfl,eL⟩:=fU.val;have oO:=(fU.kept.same z SZ.mc).trans rQ;obtain⟨ti,aj,ak⟩:=a8;refine cM (.inr rfl) ae rfl rfl rfl (by omega) (by omega) (oO) rfl (by show 0+W*3≤ws.length;omega) aj ak (fun _=>rfl) rfl rfl rfl fun _=> ?_;refine aq ?_;rw[oP,Int.toNat_natCast];have Ry:=hV.set fU.kept (ajg (RR _ _ _ fU.kept.le mX) eX (show bT _ [_,_,_] _ from eL))
       refine ag [1,2,5,7,8,9,13,14,15,61,62,71,72] rfl ?_;refine av rfl ?_;refine aD rfl rfl ⟨by omega,by omega⟩ ?_;refine vr 1 ?_;refine aq ?_;exact⟨i+1,bQ f2 k (f2 k-dG p i k),by omega,an,Ry,fun j hj=>by rw[oJ (by omega)];exact R1 j hj,by rw[qy,HU,Zh Rv],by omega⟩
      ·
       have Rz:¬(p.u≤p.unit i∧(k<p.u∨k=p.w)):=fun h9=>by have:=iv.2 h9;simp[this]at hb
       refine au ?_;refine ag [1,2,5,7,8,9,13,14,15,61,62,71,72] rfl ?_;refine av rfl ?_;refine aD rfl rfl ⟨by omega,by omega⟩ ?_;refine vr 1 ?_;refine aq ?_;exact⟨i+1,f2,by omega,an,hV,R1,by rw[HU,Zi Rz],by omega⟩
    ·
     have aQ:p.lp.m≤i:=by simpa using hb
     obtain rfl:i=p.lp.m:=by omega
     refine aU ?_;refine ag [1,2,5,7,8,9,13,14,61,62] rfl ?_;refine av rfl ?_;refine aD rfl rfl ⟨by omega,by omega⟩ ?_;refine vr 1 ?_;refine aq ?_;rw[Zj]at HU
     exact⟨k+1,f2,by omega,an,hV,fun j hj=>by
      by_cases ej:j=k
      ·subst ej;exact HU
      ·exact R1 j (by omega),by omega⟩
   ·
    have eX:W≤k:=by simpa using hb
    have ek:k=W:=by omega
    rw[ek]at hS LF;have BM:=hS.to (C':=kP W f) fun _ h=>LJ h;refine aU ?_;refine ag [1,2,5,7,8,9,13,14] rfl ?_;refine ab ?_;refine vr 3 ?_;refine dI Tryz.underlying40 xa rfl rfl rfl rfl rfl rfl rfl ?_;intro gb bD;have ZT:=BM.fresh yW (e:=whole [.slice (some ⟨z,0,none⟩) W W] 26) bD;refine eN Tryz.underlying40 xa rfl rfl ZT.q.rows (eZ _ _ _ _ _ _) rfl (AQ _ _ _) (by omega) (by omega) ?_;intro v8 H8 ny;obtain⟨A9,c9,rfl⟩:=ny.own.form;have qz:=ZT.more (LA ny);obtain⟨qk,dX⟩:=qz.drop;obtain⟨M9,wJ⟩:∃M9,M9=(fun i=>if i=p.lp.m then f else dG p i):=⟨_,rfl⟩;rw[←wJ]at qk
    have ZU:lK p (wD M9 p.unit p.lp.m p.w):=by
     refine YU bg (fun i hi j hj=>by rw[wJ];show (if i=p.lp.m then f else dG p i) j=_;rw[if_neg (by omega)]) (fun j hj=> ?_)
     have e7:qB p M9 j=qB p (dG p) j:=by
      unfold qB
      split
      ·
       refine congrArg (fun x:Rat=> -x) (eO fun i hi=> ?_);rw[wJ]
       show (if _ then(if i=p.lp.m then f else dG p i) j else 0)=_
       rw[if_neg (show ¬i=p.lp.m by omega)]
      ·rfl
     rw[e7,←LF j (by omega),wJ]
     show (if p.lp.m=p.lp.m then f else _) j=_
     rw[if_pos rfl]
    obtain⟨G9,rfl,rfl,HB,qk,dX⟩:∃G9:GG,G9.Ar=A9∧G9.cr=c9∧G9.bv = .slice Ab p.lp.m cb∧bZ iq H8 G9 (p.lp.m+1) (p.w+1) p.lp.m M9 p.unit∧Heap.le (rem H3 G.gs) (rem H8 G9.gs):=⟨G.more G.top z W A9 c9 p.lp.m,rfl,rfl,cY,by rw[←hW];exact qk,dX⟩;have RA:∀i,i<p.lp.m→p.unit i<p.w+1:=fun i hi=>Nat.lt_succ_of_lt (nx p hi);refine vr 1 ?_;obtain⟨ti,aj,ak⟩:=IH;refine aJ (.inr rfl) rfl rfl rfl aj ak rfl rfl rfl ?_;refine aa [1,2,5,7,8,9,13] ?_;refine ab ?_;refine vr 2 ?_;have hI:=Y9 (u:=p.u) qk (by omega) (by omega) (by omega) (fun T r s=>lK.step) ZU Ls ZU.acc RA (fun T hT=>hT.sz hf) (by omega);rw[HB]at hI;refine aw rfl rfl hI ?_;rintro _ pj ⟨DB,LB,BG,T,rfl,sW,oE,hT,iI,RB,CA,RD⟩;have yT:=dX.trans oE
    have HJ:∀j,j<p.u→0≤T.c j:=fun j hj=>by
     cases BG with
     | true=>rw[←iI.ec j (by omega)];exact CA rfl j hj
     | false=>
      obtain⟨s,k1,k2,k3⟩:=RD rfl;exact(hT.YS k1 (by rw[←iI.ec s (by omega)];exact k2) fun i hi=>by rw[iI.em]at hi;rw[←iI.eA i hi s (by omega)];exact k3 i hi).elim
    obtain⟨pm,rO⟩:=sW.get (Nat.lt_succ_self p.lp.m);obtain⟨xm,sm,By,Bz⟩:=sW.qC rO;obtain⟨t10,GO,Dk⟩:=lL Bz (show p.w<p.w+1 by omega)
    have alp:aG (DB p.lp.m p.w)≤L:=by rw[iI.ec _ (Nat.lt_succ_self _)];exact(hT.sz hf _ (Nat.lt_succ_self _)).1
    refine aa [1,2,5,7,8,9,13] ?_;refine al ?_;refine ab ?_;refine vr 5 ?_;refine cP rfl rfl ⟨by omega,by omega⟩ ?_;refine aM ae rfl rfl rfl rfl rfl (sW.hd) (by rw[show (((p.lp.m+1:Nat):Int)-1).toNat=p.lp.m by omega];exact ke (rg:=G9.rg) (W:=_) rO) (by omega) (by omega) fun _=> ?_;refine vr 1 ?_;refine cP rfl rfl ⟨by omega,by omega⟩ ?_;refine bR (vs:=[.bool t10.f,.slice t10.A1 t10.m1 t10.c1,.slice t10.A2 t10.m2 t10.c2]) ae rfl rfl rfl rfl (dF By) rfl (by decide) (by rw[show ((W:Int)-1).toNat=p.w by omega];exact Dk) (by omega) (by omega) fun _=> ?_;refine aw rfl rfl (Fn.kX sW.ne (vX (bK.raw GO) (by omega))) ?_;rintro v11 im ⟨tl,rL,rfl⟩;have C2:=sW.kept tl;have yT:=yT.trans tl.le;refine vr 1 ?_;refine aa [1,2,5,7,8,9,13,133] ?_;refine aB rfl (fun hb=> ?_) (fun hb=> ?_)
    ·
     have zQ:p.lp.p9:=hT.inf bg HJ (by rw[←iI.ec _ (Nat.lt_succ_self _)];exact fun h9=>by rw[h9]at hb;simp[fo]at hb);have hS:rS p c 2 0:= .inr (.inl ⟨rfl,zQ,rfl⟩);have ZV:=yT.trans (bG _ _);refine bJ .bF [0,1,2,3] follows (by kernel_rfl) ?_;refine vr 2 ?_;obtain⟨ti,aj,ak⟩:=a8;refine aJ (.inl ⟨rfl,rfl⟩) rfl rfl rfl aj ak rfl rfl rfl ?_;refine vr 1 ?_;refine aa [4,5,6] ?_;obtain⟨HT,tz,tA⟩:=a8;refine az ⟨.inr rfl,_,.tmp rfl (.agg rfl Tryz.underlying31 tz tA (.tmp rfl (.nil))),?_⟩;exact⟨dC.trans ZV,2,t9,.slice none 0 0,0,rfl,hS,eW.le ZV,HS hf hS,fun h9=>absurd h9 (by decide)⟩
    ·
     have h0:DB p.lp.m p.w=0:=q6 (by simpa using hb);have RE:iJ p 0 T:=hT.clean HJ (by rw[←iI.ec _ (Nat.lt_succ_self _)];exact h0);obtain⟨cV,jX,l6,iX,_,_,alq⟩:=C2.less;have rU:=yT.trans iX;refine au ?_;refine ag [1,2,5,7,8,9,13] rfl ?_;refine ab ?_;refine vr 5 ?_;refine cP rfl rfl ⟨by omega,by omega⟩ ?_;rw[show ((p.lp.m+1:Nat):Int)-1=((p.lp.m:Nat):Int) by omega];refine wZ ae rfl rfl (.inl ⟨rfl,rfl⟩) (.inr ⟨_,_,rfl,rfl⟩) (by omega) (by omega) ?_;rw[zw,Nat.sub_zero,Nat.sub_zero];refine vr 1 ?_;obtain⟨ti,aj,ak⟩:=IH;refine aJ (.inr rfl) rfl rfl rfl aj ak rfl rfl rfl ?_;refine aa [1,2,5,7,8,9,13] ?_;refine Qs jX ?_;obtain⟨gQ,eA,eC,LU,l6,rU⟩:∃gQ:GG,gQ.Ar=G9.Ar∧gQ.cr=G9.cr∧gQ.bv = .slice Ab p.lp.m cb∧bZ iq cV gQ p.lp.m (p.w+1) p.lp.m DB LB∧Heap.le (rem H3 G.gs) (rem cV gQ.gs):=⟨G9.less p.lp.m,rfl,rfl,HB,l6,rU⟩;rw[←eA,←eC];clear jX By Bz dX oE;obtain⟨LC,LD,rh,An⟩:=l6.rT;rw[LU]at rh
     cases rh
     refine al ?_;refine ab ?_;refine vr 4 ?_;refine aa [1,2,5,7,8,9,13,145,146] ?_;refine aC ?_;refine gh (fun(i:Nat)(M1:Nat→Nat→Rat)(B1:Nat→Nat)=>p.lp.m-i) (fun(i:Nat)(M1:Nat→Nat→Rat)(B1:Nat→Nat)=>put (put (put (put (put (put (put (put (put (emp) 1 (.val (cv))) 2 (.box [fv,fN])) 5 (.box [.bool false,.slice none 0 0,.slice none 0 0])) 7 (.box [.slice gQ.Ar p.lp.m gQ.cr,.slice Ab p.lp.m cb])) 8 (.val (.int .i64 (p.u:Int)))) 9 (.box [.bool t9.f,.slice t9.A1 t9.m1 t9.c1,.slice t9.A2 t9.m2 t9.c2])) 13 (.val (.int .i64 (W:Int)))) 145 (.val (.int .i64 (p.lp.m:Int)))) 146 (.val (.int .i64 (i:Int)))) (fun(i:Nat)(M1:Nat→Nat→Rat)(B1:Nat→Nat) H'=>bZ iq H' gQ p.lp.m (p.w+1) p.lp.m M1 B1∧Heap.le (rem H3 G.gs) (rem H' gQ.gs)∧(∀q,q<p.lp.m→B1 q<p.w+1)∧(∃T,iJ p i T∧gF M1 B1 T p.lp.m (p.w+1))∧i≤p.lp.m) 0 DB LB (⟨l6,rU,RB,⟨T,RE,iI⟩,Nat.zero_le _⟩) an ?_;rintro i M1 B1 kN ⟨uP,jT,yV,BH,hi⟩;refine ab ?_;refine vr 1 ?_;refine aa [1,2,5,7,8,9,13,145,146,147] ?_;refine al ?_;refine aB rfl (fun hb=> ?_) (fun hb=> ?_)
     ·
      have aQ:i<p.lp.m:=by simpa using hb
      obtain⟨pi,cL⟩:=uP.get aQ
      have RG:(∃T,iJ p i T∧gF M1 B1 T p.lp.m (p.w+1)∧p.u≤B1 i∧∀j,j<0→M1 i j=0)∨(B1 i<p.u∧∃T,iJ p (i+1) T∧gF M1 B1 T p.lp.m (p.w+1)):=by
       obtain⟨T,k1,k2⟩:=BH
       by_cases hu:B1 i<p.u
       ·exact .inr ⟨hu,T,k1.skip (by rw[k2.em];exact aQ) (.inl (by rw[←k2.eB i aQ];exact hu)),k2⟩
       ·exact .inl ⟨T,k1,k2,by omega,fun j hj=>absurd hj (Nat.not_lt_zero _)⟩
      refine au ?_;refine ag [1,2,5,7,8,9,13,145,146] rfl ?_;refine al ?_;refine aC ?_;refine ab ?_;refine vr 2 ?_;refine aa [1,2,5,7,8,9,13,17,145,146] ?_;refine ab ?_;refine vr 1 ?_;refine aa [1,2,5,7,8,9,13,17,18,145,146] ?_;refine aC ?_;refine gh (fun(k:Nat)(M2:Nat→Nat→Rat)(B2:Nat→Nat)=>p.u-k) (fun(k:Nat)(M2:Nat→Nat→Rat)(B2:Nat→Nat)=>put (put (put (put (put (put (put (put (put (put (put (emp) 1 (.val (cv))) 2 (.box [fv,fN])) 5 (.box [.bool false,.slice none 0 0,.slice none 0 0])) 7 (.box [.slice gQ.Ar p.lp.m gQ.cr,.slice Ab p.lp.m cb])) 8 (.val (.int .i64 (p.u:Int)))) 9 (.box [.bool t9.f,.slice t9.A1 t9.m1 t9.c1,.slice t9.A2 t9.m2 t9.c2])) 13 (.val (.int .i64 (W:Int)))) 17 (.val (.int .i64 (i:Int)))) 18 (.val (.int .i64 (k:Int)))) 145 (.val (.int .i64 (p.lp.m:Int)))) 146 (.val (.int .i64 (i:Int)))) (fun(k:Nat)(M2:Nat→Nat→Rat)(B2:Nat→Nat) H'=>bZ iq H' gQ p.lp.m (p.w+1) p.lp.m M2 B2∧Heap.le (rem H3 G.gs) (rem H' gQ.gs)∧(∀q,q<p.lp.m→B2 q<p.w+1)∧((∃T,iJ p i T∧gF M2 B2 T p.lp.m (p.w+1)∧p.u≤B2 i∧∀j,j<k→M2 i j=0)∨(B2 i<p.u∧∃T,iJ p (i+1) T∧gF M2 B2 T p.lp.m (p.w+1)))∧k≤p.u) 0 M1 B1 (⟨uP,jT,yV,RG,Nat.zero_le _⟩) an ?_;rintro k M2 B2 pH ⟨oF,uX,LV,R2,JQ⟩;have ZW:=An (t:=gQ.top) oF i aQ;refine al ?_
      by_cases BA:k<p.u
      ·
       skip
       by_cases h2u:p.u≤B2 i
       ·
        obtain⟨alr,als,Lu,ajm⟩:=oF.qC cL;obtain⟨t14,wv,Hi⟩:=lL ajm (show k<p.w+1 by omega)
        obtain⟨T2,k1,k2,k3,k4⟩:∃T,iJ p i T∧gF M2 B2 T p.lp.m (p.w+1)∧p.u≤B2 i∧∀j,j<k→M2 i j=0:=by
         rcases R2 with h9 | ⟨h9,_⟩
         ·exact h9
         ·omega
        have wF:∀q,q<p.lp.m→∀j,j<p.w+1→aG (M2 q j)≤L:=fun q hq j hj=>by rw[k2.eA q hq j hj];exact k1.sz hf j hj q hq
        have alu:=wF i aQ k (by omega);refine ab ?_;refine vr 2 ?_;refine aA true rfl rfl (iz (by omega)) ?_;refine vr 4 ?_;refine aM ae rfl rfl rfl rfl rfl (ZW) (by rw[Int.toNat_natCast];exact gj aQ) (by omega) (by omega) fun _=> ?_;refine vr 1 ?_;refine aA true rfl rfl (qT (by omega)) ?_;refine vr 1 ?_;refine aa [1,2,5,7,8,9,13,17,18,145,146,160] ?_;refine cD rfl ?_;refine au ?_;refine ag [1,2,5,7,8,9,13,17,18,145,146] rfl ?_;refine al ?_;refine aC ?_;refine ab ?_;refine vr 3 ?_;refine aM ae rfl rfl rfl rfl rfl (oF.hd) (by rw[Int.toNat_natCast];exact ke (rg:=gQ.rg) (W:=_) cL) (by omega) (by omega) fun _=> ?_;refine vr 1 ?_;refine bR (vs:=[.bool t14.f,.slice t14.A1 t14.m1 t14.c1,.slice t14.A2 t14.m2 t14.c2]) ae rfl rfl rfl rfl (dF Lu) rfl (by decide) (by rw[Int.toNat_natCast];exact Hi) (by omega) (by omega) fun _=> ?_;refine aw rfl rfl (Fn.kX oF.ne (vX (bK.raw wv) (by omega))) ?_;rintro QL lf ⟨R3,ZX,rfl⟩;have yB:=oF.kept R3;refine vr 1 ?_;refine aa [1,2,5,7,8,9,13,17,18,145,146,172] ?_;refine aB rfl (fun hb=> ?_) (fun hb=> ?_)
        ·
         have aY:M2 i k≠0:=fun h9=>by rw[h9]at hb;simp[fo]at hb
         have ZY:=k1.pivot (by rw[k2.em];exact aQ) (by rw[←k2.eB i aQ];exact k3) BA (by rw[←k2.eA i aQ k (by omega)];exact aY)
         have hzP:∀q,q<p.lp.m→∀j,j<p.w+1→aG (lJ M2 i k q j)≤L:=fun q hq j hj=>by
          have h9:=k2.pivot (M':=lJ M2 i k) aQ (show k<p.w+1 by omega) fun _ _ _ _=>rfl;rw[h9.eA q hq j hj];exact ZY.sz hf j hj q hq
         refine av rfl ?_;refine vr 3 ?_;have hP:=Y0 yB aQ aQ (show k<p.w+1 by omega) aY wF hzP (by omega) (by omega) (by omega);rw[LU]at hP;refine aw rfl rfl hP ?_;rintro Zw BI ⟨M3,ajn,ajo,R4⟩;refine aq ?_;refine ag [1,2,5,7,8,9,13,17,18,145,146] rfl ?_;refine av rfl ?_;refine vr 1 ?_;refine aD rfl rfl ⟨by omega,by omega⟩ ?_;refine vr 1 ?_;refine aq ?_;obtain⟨M5,HK⟩:∃M5:Nat→Nat→Rat,M5=fun q=>if q=p.lp.m then lJ M2 i k p.lp.m else M3 q:=⟨_,rfl⟩
         have HL:∀q,q<p.lp.m→M5 q=M3 q:=fun q hq=>by rw[HK];show (if q=p.lp.m then _ else M3 q)=_;rw[if_neg (by omega)]
         exact⟨k+1,M5,_,by omega,an,ajn.BE fun q hq j _=>by rw[HL q hq],(uX.trans R3.le).trans R4,fun q hq=>by
          show (if q=i then k else B2 q)<_
          split
          ·omega
          ·
           exact LV q hq,.inr ⟨by rw[if_pos rfl];exact BA,T2.pivot i k,ZY,k2.pivot aQ (by omega) fun q hq j hj=>by
           by_cases e:q=p.lp.m
           ·
            subst e;rw[HK]
            show (if p.lp.m=p.lp.m then _ else M3 _) j=_
            rw[if_pos rfl]
           ·rw[HL q (by omega)];exact ajo q (by omega) j hj⟩,by omega⟩
        ·
         skip
         refine au ?_;refine ag [1,2,5,7,8,9,13,17,18,145,146] rfl ?_;refine av rfl ?_;refine vr 1 ?_;refine aD rfl rfl ⟨by omega,by omega⟩ ?_;refine vr 1 ?_;refine aq ?_
         exact⟨k+1,M2,B2,by omega,an,yB,uX.trans R3.le,LV,.inl ⟨T2,k1,k2,k3,fun j hj=>by
          by_cases e:j=k
          ·subst e;exact q6 (by simpa using hb)
          ·exact k4 j (by omega)⟩,by omega⟩
       ·
        have hD:∃T,iJ p (i+1) T∧gF M2 B2 T p.lp.m (p.w+1):=by
         rcases R2 with ⟨T,_,_,k3,_⟩ | h8
         ·omega
         ·exact h8.2
        refine ab ?_;refine vr 2 ?_;refine aA true rfl rfl (iz (by omega)) ?_;refine vr 4 ?_;refine aM ae rfl rfl rfl rfl rfl (ZW) (by rw[Int.toNat_natCast];exact gj aQ) (by omega) (by omega) fun _=> ?_;refine vr 1 ?_;refine aA false rfl rfl (zu (by omega)) ?_;refine vr 1 ?_;refine aa [1,2,5,7,8,9,13,17,18,145,146,160] ?_;refine cU rfl ?_;refine aU ?_;refine ag [1,2,5,7,8,9,13,145,146] rfl ?_;refine av rfl ?_;refine aD rfl rfl ⟨by omega,by omega⟩ ?_;refine vr 1 ?_;refine aq ?_;exact⟨i+1,M2,B2,by omega,an,oF,uX,LV,hD,by omega⟩
      ·
       have hD:∃T,iJ p (i+1) T∧gF M2 B2 T p.lp.m (p.w+1):=by
        rcases R2 with ⟨T,k1,k2,k3,k4⟩ | h8
        ·exact⟨T,k1.skip (by rw[k2.em];exact aQ) (.inr fun j hj=>by rw[←k2.eA i aQ j (by omega)];exact k4 j (by omega)),k2⟩
        ·exact h8.2
       refine ab ?_;refine vr 2 ?_;refine aA false rfl rfl (fQ (by omega)) ?_;refine vr 9 ?_;refine aa [1,2,5,7,8,9,13,17,18,145,146,160] ?_;refine cU rfl ?_;refine aU ?_;refine ag [1,2,5,7,8,9,13,145,146] rfl ?_;refine av rfl ?_;refine aD rfl rfl ⟨by omega,by omega⟩ ?_;refine vr 1 ?_;refine aq ?_;exact⟨i+1,M2,B2,by omega,an,oF,uX,LV,hD,by omega⟩
     ·
      have aQ:p.lp.m≤i:=by simpa using hb
      obtain rfl:i=p.lp.m:=by omega
      obtain⟨T3,R5,R6⟩:=BH;have wK:=dC.trans jT
      have LO:=ajb (N1:=2*L) uP (Nat.le_refl _) (hp.le wK) (hc.le (ik N) wK) dA (by omega) yV (by omega) (by omega) (by omega) (by omega) (fun i hi k hk=>ajf hf R5 R6 hi hk) (fun i hi k hk=>by
       rw[R6.eA i hi k hk];have:=R5.sz hf k hk i hi
       omega)
      rw[LU,←hW]at LO;refine aU ?_;refine ag [1,2,5,7,8,9,13] rfl ?_;refine bJ .bF [0,1,2,3,4,5,6,7,8,9,10] follows (by kernel_rfl) ?_;refine vr 6 ?_;refine aO rfl rfl LO (fun _ _ ⟨_,_,_,h⟩=>h) ?_;rintro _ lf ⟨z5,rfl,pK,alv⟩;refine dI Tryz.underlying40 xa rfl rfl rfl rfl rfl rfl rfl ?_;intro gb bD;have ZZ:=pK.fresh yW (e:=whole [.slice (some ⟨z5,0,none⟩) W W] 26) bD;refine eN Tryz.underlying40 xa rfl rfl ZZ.q.rows (eZ _ _ _ _ _ _) rfl (AQ _ _ _) (by omega) (by omega) ?_;intro Zw BI DC;obtain⟨RH,RI,rfl⟩:=DC.own.form;have ajp:=ZZ.more (LA DC);obtain⟨LW,uQ⟩:=ajp.drop;have uQ:=jT.trans uQ;obtain⟨u0,BJ⟩:∃u0,u0=(fun i=>if i=p.lp.m then lh M1 B1 (eQ p (fn c) 1 p.lp.n) p.lp.m else M1 i):=⟨_,rfl⟩;rw[←BJ]at LW
      have Z0:nD p c (wD u0 B1 p.lp.m p.w):=YW R5 R6 (fun i hi j hj=>by rw[BJ];show (if i=p.lp.m then _ else M1 i) j=_;rw[if_neg (by omega)]) (fun j hj=>by
       rw[BJ]
       show (if p.lp.m=p.lp.m then(_:Nat→Rat)else _) j=_
       rw[if_pos rfl])
      obtain⟨DG,rfl,rfl,Z1,LW,uQ⟩:∃DG:GG,DG.Ar=RH∧DG.cr=RI∧DG.bv = .slice Ab p.lp.m cb∧bZ iq BI DG (p.lp.m+1) (p.w+1) p.lp.m u0 B1∧Heap.le (rem H3 G.gs) (rem BI DG.gs):=⟨gQ.more gQ.top z5 W RH RI p.lp.m,rfl,rfl,LU,by rw[←hW];exact LW,uQ⟩;refine vr 1 ?_;obtain⟨ti,aj,ak⟩:=IH;refine aJ (.inr rfl) rfl rfl rfl aj ak rfl rfl rfl ?_;refine aa [1,2,5,7,8,9,13] ?_;refine ab ?_;refine vr 2 ?_;have hI:=Y9 (u:=p.u) LW (by omega) (by omega) (by omega) (fun T r s=>nD.step) Z0 Ls Z0.acc yV (fun T hT=>hT.sz hf) (by omega);rw[Z1]at hI;refine aw rfl rfl hI ?_;rintro _ RJ ⟨RK,RL,HM,T2,rfl,ajq,RM,BK,qE,LG,RN,RO⟩;have Dv:=uQ.trans RM
      have hV:=ajc (N1:=L) ajq (by omega) (hp.le (dC.trans Dv)) (by omega) (by omega) LG (by omega) (by omega) (by omega) ZR (fun i hi=>by
       rw[qE.eA i hi _ (by omega)];exact(BK.sz hf _ (by omega)).2 i hi)
      rw[Z1,←hW,show W-1=p.w by omega]at hV
      have Z2:∀q,q∈aH (jH p (iu RK RL p.w p.lp.m)) p.free.length→aG q≤2*L+17:=fun q hq=>by
       obtain⟨j,hj,rfl⟩:=Bc hq;have:=aja (p:=p) (fun j=>ZM (M:=RK) (B:=RL) (n:=p.w) (N:=L) ZR (fun i hi=>by rw[qE.eA i hi _ (by omega)];exact(BK.sz hf _ (by omega)).2 i hi) j p.lp.m (Nat.le_refl _)) j
       omega
      refine vr 1 ?_;refine aa [1,2,5,7,9,13,19] ?_;refine ab ?_;refine vr 3 ?_;refine aw rfl rfl hV ?_;rintro xv P2 ⟨HN,HO⟩;have LX:=(Dv.trans (bG _ _)).trans HN;refine vr 1 ?_;refine aa [1,5,9,19,20] ?_;refine al ?_;refine ab ?_;refine vr 2 ?_;refine aa [1,5,9,20,196] ?_;refine aB rfl (fun hb=> ?_) (fun hb=> ?_)
      ·
       have hb:HM=false:=by simpa using hb
       obtain⟨s2,k1,k2,k3⟩:=RO hb
       have hS:rS p c 3 0:=BK.YX bg dA k1 (by rw[←qE.ec s2 (by omega)];exact k2) fun i hi=>by rw[qE.em]at hi;rw[←qE.eA i hi s2 (by omega)];exact k3 i hi
       refine bJ .bF [0,1,2,3,4] follows (by kernel_rfl) ?_;refine vr 3 ?_;obtain⟨ti,aj,ak⟩:=a8;refine aJ (.inl ⟨rfl,rfl⟩) rfl rfl rfl aj ak rfl rfl rfl ?_;refine vr 1 ?_;refine aa [4,5,6] ?_;obtain⟨HT,tz,tA⟩:=a8;refine az ⟨.inr rfl,_,.tmp rfl (.agg rfl Tryz.underlying31 tz tA (.tmp rfl (.nil))),?_⟩;exact⟨dC.trans LX,3,t9,xv,0,rfl,hS,eW.le LX,HS hf hS,fun h9=>absurd h9 (by decide)⟩
      ·
       have hb:HM=true:=by simpa using hb
       have RP:∀j,j<p.u→0≤T2.c j:=fun j hj=>by rw[←qE.ec j (by omega)];exact RN hb j hj
       have hS:=BK.opt bg dA RP qE;refine au ?_;refine ag [1,5,20] rfl ?_;refine ab ?_;refine vr 2 ?_;refine aw rfl rfl (Za (N:=400000000) ((hc.le (ik N) (dC.trans LX)).ZQ hN) (HO.qx fun q hq=>Nat.le_trans (Z2 q hq) (by omega)) (by rw[aW];omega) (by omega) (Nat.le_refl _)) ?_;rintro _ KE ⟨Z3,t20,rfl,sY⟩;rw[dA]at sY;refine vr 2 ?_;obtain⟨ti,aj,ak⟩:=a8;refine aJ (.inl ⟨rfl,rfl⟩) rfl rfl rfl aj ak rfl rfl rfl ?_;refine vr 1 ?_;refine aa [4,5,6] ?_;obtain⟨HT,tz,tA⟩:=a8;refine az ⟨.inr rfl,_,.tmp rfl (.agg rfl Tryz.underlying31 tz tA (.tmp rfl (.nil))),?_⟩;exact⟨(dC.trans LX).trans Z3,1,t20,xv,_,rfl,hS,sY,HS hf hS,fun _=>⟨_,HO.le fK Z3,aW _ _,Z2,rfl⟩⟩
end Go.ar
