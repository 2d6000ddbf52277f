/- Part 6 of the proof: Tab3, TDat3, Tab4, Tab5, Tab6, Tab7, Eng13, Tab8. -/
import Derived.Test.YtfjncmjbhfdnpaaGreatA05
set_option linter.unusedVariables false
namespace Go.ay
open Go.Proofs Num Lp
theorem kV{q:Rat}:0≤dF q↔0≤q:=by
 unfold dF
 by_cases h:q<0
 ·rw[if_pos h];constructor <;> intro h' <;> first | omega | grind
 ·rw[if_neg h]
  by_cases e:q=0
  ·rw[if_pos e];constructor <;> intro h' <;> first | omega | grind
  ·rw[if_neg e];constructor <;> intro h' <;> first | omega | grind
theorem nC{q:Rat}:dF q≤0↔q≤0:=by
 unfold dF
 by_cases h:q<0
 ·rw[if_pos h];constructor <;> intro h' <;> first | omega | grind
 ·rw[if_neg h]
  by_cases e:q=0
  ·rw[if_pos e];constructor <;> intro h' <;> first | omega | grind
  ·rw[if_neg e];constructor <;> intro h' <;> first | omega | grind
theorem yE{q:Rat}:dF q<0↔q<0:=by
 have:=kV (q:=q)
 constructor
 ·intro h;false_or_by_contra;have:=this.2 (by grind);omega
 ·intro h;false_or_by_contra;have:=this.1 (by omega);grind
theorem HW{q:Rat}:0<dF q↔0<q:=by
 have:=nC (q:=q)
 constructor
 ·intro h;false_or_by_contra;have:=this.2 (by grind);omega
 ·intro h;false_or_by_contra;have:=this.1 (by omega);grind
theorem wo{q:Rat}:dF q=0↔q=0:=by
 constructor
 ·exact wg
 ·intro h;rw[h];rfl
theorem aa5(q:Rat):aJ q⁻¹≤aJ q:=by
 by_cases h:q=0
 ·rw[h,Rat.inv_zero];exact Nat.le_refl _
 ·have hn:0<q.num.natAbs:=by
   have:q.num≠0:=fun e=>h (Rat.num_eq_zero.1 e)
   omega
  have e:=P6 (g:=decide (q.num<0)) (m:=q.num.natAbs) (e:=q.den) hn
  rw[yf]at e
  have h1:=lB (Nat.div_le_self q.den (Nat.gcd q.den q.num.natAbs))
  have h2:=lB (Nat.div_le_self q.num.natAbs (Nat.gcd q.den q.num.natAbs))
  rw[e]
  unfold aJ
  rw[ye hn,vN hn];omega
theorem LJ(p q:Rat):aJ (p/q)≤aJ p+aJ q:=by
 rw[Rat.div_def]
 have h1:=nx p q⁻¹
 have h2:=aa5 q
 omega
def Found(T:ao)(s k:Nat)(row:Int)(K:Heap)(ls:List Value):Prop:=
 (row = -1∧∀i,i<k→T.A i s≤0)∨∃r:Nat,row=(r:Int)∧r<k∧0<T.A r s∧bo K ls (T.A r T.n/T.A r s)∧
  ∀i,i<k→0<T.A i s→T.A r T.n/T.A r s<T.A i T.n/T.A i s∨(T.A r T.n/T.A r s=T.A i T.n/T.A i s∧T.B r≤T.B i)
section
variable {T:ao} {s k:Nat} {row:Int} {K K':Heap} {ls:List Value}
theorem Found.le(h:Found T s k row K ls)(hl:Heap.le K K'):Found T s k row K' ls:=by
 rcases h with h | ⟨r,h1,h2,h3,h4,h5⟩
 ·exact .inl h
 ·exact .inr ⟨r,h1,h2,h3,h4.le hl,h5⟩
theorem Found.skip(h:Found T s k row K ls)(hk:T.A k s≤0):Found T s (k+1) row K ls:=by
 rcases h with ⟨h1,h2⟩ | ⟨r,h1,h2,h3,h4,h5⟩
 ·exact .inl ⟨h1,fun i hi=>by
   by_cases e:i=k
   ·rw[e];exact hk
   ·exact h2 i (by omega)⟩
 ·exact .inr ⟨r,h1,by omega,h3,h4,fun i hi hp=>by
   by_cases e:i=k
   ·rw[e]at hp;grind
   ·exact h5 i (by omega) hp⟩
theorem Found.new{Rq:List Value}(h:Found T s k row K ls)(hk:0<T.A k s)(hn:bo K Rq (T.A k T.n/T.A k s))(hl:row = -1∨∀r:Nat,row=(r:Int)→T.A k T.n/T.A k s<T.A r T.n/T.A r s):Found T s (k+1) (k:Int) K Rq:=by
 refine .inr ⟨k,rfl,by omega,hk,hn,fun i hi hp=> ?_⟩
 by_cases e:i=k
 ·rw[e];exact .inr ⟨rfl,Nat.le_refl _⟩
 ·rcases h with ⟨h1,h2⟩ | ⟨r,h1,h2,h3,h4,h5⟩
  ·have:=h2 i (by omega);grind
  ·have h6:T.A k T.n/T.A k s<T.A r T.n/T.A r s:=by
    rcases hl with hl | hl
    ·omega
    ·exact hl r h1
   rcases h5 i (by omega) hp with h7 | h7
   ·left;grind
   ·left;rw[←h7.1];exact h6
theorem Found.tie(h:Found T s k row K ls)(hk:0<T.A k s){r:Nat}(hr:row=(r:Int))(he:T.A k T.n/T.A k s=T.A r T.n/T.A r s)(hB:T.B k<T.B r):Found T s (k+1) (k:Int) K ls:=by
 rcases h with ⟨h1,h2⟩ | ⟨r',h1,h2,h3,h4,h5⟩
 ·omega
 ·obtain rfl:r'=r:=by omega
  refine .inr ⟨k,rfl,by omega,hk,by rw[he];exact h4,fun i hi hp=> ?_⟩
  by_cases e:i=k
  ·rw[e];exact .inr ⟨rfl,Nat.le_refl _⟩
  ·rcases h5 i (by omega) hp with h7 | h7
   ·left;rw[he];exact h7
   ·right;exact⟨by rw[he];exact h7.1,by omega⟩
theorem Found.stay(h:Found T s k row K ls)(hk:0<T.A k s){r:Nat}(hr:row=(r:Int))(he:T.A r T.n/T.A r s<T.A k T.n/T.A k s∨(T.A r T.n/T.A r s=T.A k T.n/T.A k s∧T.B r≤T.B k)):Found T s (k+1) row K ls:=by
 rcases h with ⟨h1,h2⟩ | ⟨r',h1,h2,h3,h4,h5⟩
 ·omega
 ·obtain rfl:r'=r:=by omega
  refine .inr ⟨r',h1,by omega,h3,h4,fun i hi hp=> ?_⟩
  by_cases e:i=k
  ·rw[e];exact he
  ·exact h5 i (by omega) hp
end
theorem Rr{H:Heap}{G:TG}{L:TL}{T0:ao}{N:Nat}{I:ao→Prop}(h:dC H G L T0)(hc:ie H G L T0)(hI:I T0)(Rs:∀S r s,I S→S.sy L.u r s→I (S.pivot r s))(hinv:∀S,I S→S.WF∧S.kT∧Sz N S∧S.m=T0.m∧S.n=T0.n)
 (hN:(N:Int)≤137438953472) (hw:(L.w:Int)≤1000000) (hm:(T0.m:Int)≤1000000):
 Fn Tryz.prog 51 #[.pointer (some ⟨G.g,0,none⟩)] H (fun v H'=>∃T,I T∧dC H' G L T∧ie H' G L T∧Heap.le (rem H G.gs) (rem H' G.gs)∧((v = .int .i64 (-1)∧∀j,j<L.u→0≤T.c j)∨∃s:Nat,v = .int .i64 (s:Int)∧s<L.u∧T.c s<0∧∀i,i<T.m→T.A i s≤0)):=by
 have oC:=h.uw;refine aU (args:=[_]) Tryz.func51 rfl rfl Tryz.ntmps51 rfl rfl fun w0=> ?_;refine ag [0] rfl ?_;refine ae ?_;refine vr 1 ?_;refine ab [0] ?_;refine aD ?_;refine Pb (γ:=ao) (ao.Step L.u) (fun(T:ao)=>put (emp) 0 (.val (.pointer (some ⟨G.g,0,none⟩)))) (fun(T:ao) H'=>dC H' G L T∧ie H' G L T∧I T∧Heap.le (rem H G.gs) (rem H' G.gs)) (T0) ((by obtain⟨h1,h2,_⟩:=hinv T0 hI;exact ao.aad h1 h2 (by rw[h.n];exact oC))) au (⟨h,hc,hI,.refl _⟩) ?_;rintro T H1 ⟨h1,jo,DN,fk⟩;obtain⟨Li,yo,cP,ui,LK⟩:=hinv T DN;have hTw:T.n=L.w:=h1.n
 have aa6:(T.m:Int)≤1000000:=by rw[ui];exact hm
 refine aD ?_;refine ae ?_;refine vr 1 ?_;refine ab [0,3] ?_;refine mz (fun(k:Nat)=>put (put (emp) 0 (.val (.pointer (some ⟨G.g,0,none⟩)))) 3 (.val (.int .i64 (k:Int)))) (fun(k:Nat) H'=>Kept G.gs H1 H'∧((k=L.u∧∀j,j<L.u→0≤T.c j)∨(k<L.u∧T.c k<0∧∀j,j<k→0≤T.c j))) ?_ ?_
 ·
  refine aD ?_;refine ft (fun(k:Nat)=>L.u-k) (fun(k:Nat)=>put (put (emp) 0 (.val (.pointer (some ⟨G.g,0,none⟩)))) 3 (.val (.int .i64 (k:Int)))) (fun(k:Nat) H'=>Kept G.gs H1 H'∧k≤L.u∧∀j,j<k→0≤T.c j) 0 (⟨.refl _ _,Nat.zero_le _,fun j hj=>by omega⟩) au ?_;rintro k H2 ⟨jf,hku,qK⟩;have h2:=h1.kept jf;have o7:=jo.kept jf;refine al ?_
  by_cases bH:k<L.u
  ·
   obtain⟨gc,cc,DL,uh,yD⟩:=id o7;obtain⟨xc,nc,dc,bc,wm,vz,DM⟩:=yD.rd (fp (show k<L.w+1 by omega))
   have gw:cell H2 ((⟨G.g,0,none⟩:Addr).add 7)=some (.slice (some ⟨gc,0,none⟩) (L.w+1) cc):=by rw[←uh];exact h2.cell rfl
   have HM:=cP.c k (by omega);refine ae ?_;refine vr 3 ?_;refine bJ af rfl rfl rfl ?_;refine aZ af rfl rfl rfl (h2.cell rfl) ?_;refine ax true rfl rfl (mA (by omega)) ?_;refine vr 3 ?_;refine bJ af rfl rfl rfl ?_;refine aZ af rfl rfl rfl (gw) ?_;refine vr 1 ?_;refine cI (vs:=[.int .i64 nc,.int .i64 dc,.pointer bc]) af rfl rfl rfl rfl wm rfl (by decide) DM (by omega) (by omega) fun _=> ?_;refine ar rfl rfl (Fn.qh h2.ne (iN vz (by omega))) ?_;rintro v3 H3 ⟨eG,a7,rfl⟩;refine vr 2 ?_;refine ab [0,3,25] ?_;refine az rfl (fun hb=> ?_) (fun hb=> ?_)
   ·
    have hb:0≤T.c k:=kV.1 (by simpa using hb);refine aw ?_;refine ag [0,3] rfl ?_;refine aD ?_;refine aE rfl ?_;refine vr 1 ?_;refine aN rfl rfl ⟨by omega,by omega⟩ ?_;refine vr 1 ?_;refine aA ?_;exact⟨k+1,by omega,au,jf.trans eG,by omega,fun j hj=>by by_cases e:j=k;(rw[e];exact hb);exact qK j (by omega)⟩
   ·
    have hb:T.c k<0:=yE.1 (by simpa using hb);refine bB ?_;exact⟨k,au,jf.trans eG,.inr ⟨bH,hb,qK⟩⟩
  ·
   skip
   refine ae ?_;refine vr 3 ?_;refine bJ af rfl rfl rfl ?_;refine aZ af rfl rfl rfl (h2.cell rfl) ?_;refine ax false rfl rfl (jw (by omega)) ?_;refine vr 11 ?_;refine ab [0,3,25] ?_;refine dg rfl ?_;refine bB ?_;exact⟨k,au,jf,.inl ⟨by omega,fun j hj=>qK j (by omega)⟩⟩
 ·
  rintro k H3 ⟨eG,Rt⟩;have h3:=h1.kept eG;have mB:=jo.kept eG;refine al ?_;refine ae ?_;refine vr 3 ?_;refine bJ af rfl rfl rfl ?_;refine aZ af rfl rfl rfl (h3.cell rfl) ?_;refine vr 1 ?_;refine ab [0,3,33] ?_;refine az rfl (fun hb=> ?_) (fun hb=> ?_)
  ·
   have hb:k=L.u:=by simp at hb;omega
   have CJ:∀j,j<L.u→0≤T.c j:=by
    rcases Rt with h5 | h5
    ·exact h5.2
    ·omega
   refine ae ?_;refine vr 1 ?_;refine ab [2] ?_;refine aq ⟨.inr rfl,_,.tmp rfl (.nil),?_⟩;exact⟨T,DN,h3,mB,fk.trans eG.le,.inl ⟨rfl,CJ⟩⟩
  ·
   have hb:k≠L.u:=by simp at hb;omega
   obtain⟨bH,iO,qK⟩:k<L.u∧T.c k<0∧∀j,j<k→0≤T.c j:=by
    rcases Rt with h5 | h5
    ·omega
    ·exact h5
   refine aw ?_;refine ag [0,3] rfl ?_;refine ae ?_;refine vr 1 ?_;refine ab [0,3,4] ?_;refine ae ?_;refine bh dT rfl ?_;refine ab [0,3,4,5] ?_;refine al ?_;refine ae ?_;refine vr 2 ?_;refine bJ af rfl rfl rfl ?_;refine aZ af rfl rfl rfl (h3.cell rfl) ?_;refine vr 2 ?_;refine ab [0,3,4,5,37,38,39] ?_;refine aD ?_;refine jv (fun(q:Nat)(row:Int)(ls:Int×Int×Option Addr)=>T.m-q) (fun(q:Nat)(row:Int)(ls:Int×Int×Option Addr)=>put (put (put (put (put (put (put (emp) 0 (.val (.pointer (some ⟨G.g,0,none⟩)))) 3 (.val (.int .i64 (k:Int)))) 4 (.val (.int .i64 row))) 5 (.box [.int .i64 ls.1,.int .i64 ls.2.1,.pointer ls.2.2])) 37 (.val (.slice G.Ar T.m G.cr))) 38 (.val (.int .i64 (T.m:Int)))) 39 (.val (.int .i64 (q:Int)))) (fun(q:Nat)(row:Int)(ls:Int×Int×Option Addr) H'=>Kept G.gs H3 H'∧q≤T.m∧Found T k q row (rem H' G.gs) [.int .i64 ls.1,.int .i64 ls.2.1,.pointer ls.2.2]) 0 (-1) (0,0,none) (⟨.refl _ _,Nat.zero_le _,.inl ⟨rfl,fun i hi=>by omega⟩⟩) au ?_;rintro q row ls H4 ⟨fg,vB,DO⟩;have h4:=h3.kept fg;refine ae ?_;refine vr 1 ?_;refine ab [0,3,4,5,37,38,39,40] ?_;refine al ?_;refine az rfl (fun hb=> ?_) (fun hb=> ?_)
   ·
    have HX:q<T.m:=by simpa using hb
    obtain⟨pq,lO⟩:=h1.get HX;obtain⟨xs4,LH,mC⟩:=h4.rows;obtain⟨xk,nk,dk,bk,HT,DJ,HU⟩:=(h4.row q pq lO).rd (fp (show k<L.w+1 by omega));obtain⟨xw,nw,dw,bw,DP,nV,DQ⟩:=(h4.row q pq lO).rd (fp (show L.w<L.w+1 by omega));have HM:=cP.A q HX k (by omega);have jD:=cP.A q HX L.w (by omega);refine aw ?_;refine ag [0,3,4,5,37,38,39] rfl ?_;refine al ?_;refine aD ?_;refine ae ?_;refine vr 1 ?_;refine a6 af rfl rfl rfl rfl rfl (LH.le (bG _ _)) (by rw[Int.toNat_natCast];exact mC q pq lO) (by omega) (by omega) fun _=> ?_;refine vr 2 ?_;refine ab [0,3,4,5,6,7,37,38,39] ?_;refine al ?_;refine ae ?_;refine vr 2 ?_;refine cI (vs:=[.int .i64 nk,.int .i64 dk,.pointer bk]) af rfl rfl rfl rfl HT rfl (by decide) (by rw[Int.toNat_natCast];exact HU) (by omega) (by omega) fun _=> ?_;refine ar rfl rfl (Fn.qh h4.ne (iN DJ (by omega))) ?_;rintro v5 H5 ⟨ku,cA,rfl⟩;have h5:=h4.kept ku;refine vr 1 ?_;refine ab [0,3,4,5,6,7,37,38,39,49] ?_;refine az rfl (fun hb=> ?_) (fun hb=> ?_)
    ·
     have hb:T.A q k≤0:=nC.1 (by simpa using hb);refine bB ?_;refine ag [0,3,4,5,37,38,39] rfl ?_;refine aE rfl ?_;refine aN rfl rfl ⟨by omega,by omega⟩ ?_;refine vr 1 ?_;refine aA ?_;exact⟨q+1,row,ls,by omega,au,fg.trans ku,by omega,(DO.le ku.le).skip hb⟩
    ·
     have tW:0<T.A q k:=by
      have:¬dF (T.A q k)≤0:=by simpa using hb
      rw[nC]at this;grind
     refine aw ?_;refine ag [0,3,4,5,6,7,37,38,39] rfl ?_;refine bL .bn [0,1,2,3,4,5,6,7,8,9,10,11,12,13] follows (by kernel_rfl) ?_;refine vr 3 ?_;refine bJ af rfl rfl rfl ?_;refine aZ af rfl rfl rfl (h5.Bp) ?_;refine cI (vs:=[.int .i64 nw,.int .i64 dw,.pointer bw]) af rfl rfl rfl rfl (DP.le cA) rfl (by decide) (by rw[Int.toNat_natCast];exact DQ) (by omega) (by omega) fun _=> ?_;refine vr 2 ?_;refine cI (vs:=[.int .i64 nk,.int .i64 dk,.pointer bk]) af rfl rfl rfl rfl (HT.le cA) rfl (by decide) (by rw[Int.toNat_natCast];exact HU) (by omega) (by omega) fun _=> ?_;refine aH rfl rfl (Fn.iy h5.ne (Q3 (N:=N) (nV.le ku.le) (DJ.le ku.le) jD HM (by omega) (by grind))) (fun _ _ h=>by first | exact h.le | exact h.1) ?_;rintro v6 H6 ⟨sJ,fh,nq,dq,bq,rfl,LL⟩;have h6:=h5.kept sJ;have hsq:=LJ (T.A q L.w) (T.A q k);rw[←hTw]at LL hsq jD;have Ru:=(DO.le ku.le).le sJ.le;refine bh dT rfl ?_;obtain⟨ti,aj,ak⟩:=bV;refine aG (.inl ⟨rfl,rfl⟩) rfl rfl rfl aj ak rfl rfl rfl ?_;refine ab [0,3,4,5,6,8,37,38,39] ?_;refine aD ?_;refine mz (fun(bz:Bool)=>put (put (put (put (put (put (put (put (put (put (emp) 0 (.val (.pointer (some ⟨G.g,0,none⟩)))) 3 (.val (.int .i64 (k:Int)))) 4 (.val (.int .i64 row))) 5 (.box [.int .i64 ls.1,.int .i64 ls.2.1,.pointer ls.2.2])) 6 (.val (.int .i64 (q:Int)))) 8 (.box [.int .i64 nq,.int .i64 dq,.pointer bq])) 37 (.val (.slice G.Ar T.m G.cr))) 38 (.val (.int .i64 (T.m:Int)))) 39 (.val (.int .i64 (q:Int)))) 62 (.val (.bool bz))) (fun(bz:Bool) H'=>Kept G.gs H6 H'∧(bz=true→row = -1∨∀r:Nat,row=(r:Int)→T.A q T.n/T.A q k<T.A r T.n/T.A r k)∧(bz=false→∃r:Nat,row=(r:Int)∧r<q∧¬T.A q T.n/T.A q k<T.A r T.n/T.A r k)) ?_ ?_
     ·
      refine ae ?_;refine vr 3 ?_;refine ab [0,3,4,5,6,8,37,38,39,62] ?_;refine az rfl (fun hb=> ?_) (fun hb=> ?_)
      ·
       have jE:row<0:=by simpa using hb
       refine aw ?_;exact⟨_,au,.refl _ _,fun _=> .inl (by rcases DO with hx | hx;exact hx.1;obtain⟨r,hr,_⟩:=hx;omega),fun e=>by rw[hb]at e;cases e⟩
      ·
       have jE:¬row<0:=by simpa using hb
       obtain⟨r1,Bq,Rv,aa7,Br,_⟩:∃r:Nat,row=(r:Int)∧r<q∧0<T.A r k∧bo (rem H6 G.gs) [.int .i64 ls.1,.int .i64 ls.2.1,.pointer ls.2.2] (T.A r T.n/T.A r k)∧True:=by
        rcases Ru with hx | ⟨r,h1,h2,h3,h4,_⟩
        ·omega
        ·exact⟨r,h1,h2,h3,h4,trivial⟩
       have Bs:=LJ (T.A r1 T.n) (T.A r1 k);have fw:=cP.A r1 (by omega) T.n (by omega);have eL:=cP.A r1 (by omega) k (by omega);refine aE rfl ?_;refine vr 2 ?_;refine ar rfl rfl (Fn.iy h6.ne (tZ (N:=2*N) LL Br (by omega) (by omega) (by omega))) ?_;rintro va Ha ⟨mI,iI,na,da,ba,rfl,wj⟩;have hss:=qb (T.A q T.n/T.A q k) (T.A r1 T.n/T.A r1 k);refine ar rfl rfl (Fn.qh (mI.ne h6.ne) (iN wj (by omega))) ?_;rintro vb Hb ⟨ph,fP,rfl⟩;refine vr 2 ?_;refine aA ?_;exact⟨_,au,mI.trans ph,fun e=> .inr fun r hr=>(by have:=yE.1 (of_decide_eq_true e);obtain rfl:r=r1:=(by omega);grind),fun e=>⟨r1,Bq,Rv,fun bH=>of_decide_eq_false e (yE.2 (by grind))⟩⟩
     ·
      rintro bz H7 ⟨oD,di,jE⟩;have h7:=h6.kept oD;have HY:=((fg.trans ku).trans sJ).trans oD;have DR:=Ru.le oD.le;have LM:=LL.le oD.le;refine az rfl (fun hb=> ?_) (fun hb=> ?_)
      ·
       skip
       refine eT .bn [0,1,2,3] follows (by kernel_rfl) ?_;refine vr 3 ?_;obtain⟨ti,aj,ak⟩:=bV;refine aG (.inl ⟨rfl,rfl⟩) rfl rfl rfl aj ak rfl rfl rfl ?_;refine aA ?_;refine ag [0,3,4,5,37,38,39] rfl ?_;refine aE rfl ?_;refine aN rfl rfl ⟨by omega,by omega⟩ ?_;refine vr 1 ?_;refine aA ?_;exact⟨q+1,(q:Int),(nq,dq,bq),by omega,au,HY,by omega,DR.new tW LM (di hb)⟩
      ·
       obtain⟨r1,Bq,Rv,af5⟩:=jE hb
       obtain⟨aa7,Br⟩:0<T.A r1 k∧bo (rem H7 G.gs) [.int .i64 ls.1,.int .i64 ls.2.1,.pointer ls.2.2] (T.A r1 T.n/T.A r1 k):=by
        rcases DR with hx | ⟨r,h1,h2,h3,h4,_⟩
        ·omega
        ·
         obtain rfl:r=r1:=by omega
         exact⟨h3,h4⟩
       have Bs:=LJ (T.A r1 T.n) (T.A r1 k);have fw:=cP.A r1 (by omega) T.n (by omega);have eL:=cP.A r1 (by omega) k (by omega);have hss:=qb (T.A q T.n/T.A q k) (T.A r1 T.n/T.A r1 k)
       obtain⟨gb,cb,sz,yn,kA,bW⟩:∃gb cb sz,G.bb = [gb]∧G.bv = .slice (some ⟨gb,0,none⟩) T.m cb∧H7 gb=some ⟨j0 T.B T.m,sz,3,true⟩:=by
        rcases h7.basis with h8 | h8
        ·
         have:=h8.1
         omega
        ·exact h8
       have HV:gb∈G.gs:=TG.ue (by rw[yn];exact List.mem_singleton.2 rfl)
       by_cases heq:T.A q T.n/T.A q k=T.A r1 T.n/T.A r1 k
       ·
        skip
        refine bL .bn [0,1,2,3,4,5,6,7,8,9,10,11,12,13,14,15,16,17,18,19,20,21,22] follows (by kernel_rfl) ?_;refine vr 2 ?_;refine aH rfl rfl (Fn.iy h7.ne (tZ (N:=2*N) LM Br (by omega) (by omega) (by omega))) (fun _ _ h=>by first | exact h.le | exact h.1) ?_;rintro va Ha ⟨mI,iI,na,da,ba,rfl,wj⟩;refine aH rfl rfl (Fn.qh (mI.ne h7.ne) (iN wj (by omega))) (fun _ _ h=>by first | exact h.le | exact h.1) ?_;rintro vb Hb ⟨ph,fP,rfl⟩;have h8:=(h7.kept mI).kept ph
        have jt:cell Hb ((⟨G.g,0,none⟩:Addr).add 8)=some (.slice (some ⟨gb,0,none⟩) T.m cb):=by rw[←kA];exact h8.cell rfl
        have pY:Rd Hb (some ⟨gb,0,none⟩) (j0 T.B T.m):=qX (by rw[ph.same gb HV,mI.same gb HV];exact bW);refine ax true rfl rfl (dz (wo.2 (by rw[heq];grind))) ?_;refine vr 3 ?_;refine bJ af rfl rfl rfl ?_;refine aZ af rfl rfl rfl (jt) ?_;refine vr 1 ?_;refine a6 af rfl rfl rfl rfl rfl (pY) (by rw[Int.toNat_natCast];exact uc HX) (by omega) (by omega) fun _=> ?_;refine vr 2 ?_;refine bJ af rfl rfl rfl ?_;refine aZ af rfl rfl rfl (jt) ?_;refine vr 1 ?_;refine a6 af rfl rfl rfl rfl rfl (pY) (by rw[Bq,Int.toNat_natCast];exact uc (by omega)) (by omega) (by omega) fun _=> ?_;refine vr 3 ?_;refine ab [0,3,4,5,6,37,38,39,72] ?_;refine az rfl (fun hb=> ?_) (fun hb=> ?_)
        ·
         have hB:T.B q<T.B r1:=by simp at hb;omega
         refine aE rfl ?_;refine vr 2 ?_;refine aA ?_;refine ag [0,3,4,5,37,38,39] rfl ?_;refine aE rfl ?_;refine aN rfl rfl ⟨by omega,by omega⟩ ?_;refine vr 1 ?_;refine aA ?_;exact⟨q+1,(q:Int),ls,by omega,au,(HY.trans mI).trans ph,by omega,((DR.le mI.le).le ph.le).tie tW Bq heq hB⟩
        ·
         have hB:T.B r1≤T.B q:=by simp at hb;omega
         refine aw ?_;refine ag [0,3,4,5,37,38,39] rfl ?_;refine aE rfl ?_;refine aN rfl rfl ⟨by omega,by omega⟩ ?_;refine vr 1 ?_;refine aA ?_;exact⟨q+1,row,ls,by omega,au,(HY.trans mI).trans ph,by omega,((DR.le mI.le).le ph.le).stay tW Bq (.inr ⟨heq.symm,hB⟩)⟩
       ·
        skip
        refine bL .bn [0,1,2,3,4,5,6,7,8,9,10,11,12,13,14,15,16,17,18,19,20,21,22] follows (by kernel_rfl) ?_;refine vr 2 ?_;refine aH rfl rfl (Fn.iy h7.ne (tZ (N:=2*N) LM Br (by omega) (by omega) (by omega))) (fun _ _ h=>by first | exact h.le | exact h.1) ?_;rintro va Ha ⟨mI,iI,na,da,ba,rfl,wj⟩;refine aH rfl rfl (Fn.qh (mI.ne h7.ne) (iN wj (by omega))) (fun _ _ h=>by first | exact h.le | exact h.1) ?_;rintro vb Hb ⟨ph,fP,rfl⟩;refine ax false rfl rfl (eN (fun e=>heq (by have:=wo.1 e;grind))) ?_;refine vr 18 ?_;refine ab [0,3,4,5,6,37,38,39,72] ?_;refine dg rfl ?_;refine aw ?_;refine ag [0,3,4,5,37,38,39] rfl ?_;refine aE rfl ?_;refine aN rfl rfl ⟨by omega,by omega⟩ ?_;refine vr 1 ?_;refine aA ?_;exact⟨q+1,row,ls,by omega,au,(HY.trans mI).trans ph,by omega,((DR.le mI.le).le ph.le).stay tW Bq (.inl (by grind))⟩
   ·
    have hb:T.m≤q:=by simpa using hb
    obtain rfl:q=T.m:=by omega
    have Rw:=eG.trans fg;refine bB ?_;refine ag [0,3,4] rfl ?_;refine al ?_;refine ae ?_;refine vr 2 ?_;refine ab [0,3,4,98] ?_;refine az rfl (fun hb=> ?_) (fun hb=> ?_)
    ·
     have jE:row<0:=by simpa using hb
     have CJ:∀i,i<T.m→T.A i k≤0:=by
      rcases DO with hx | ⟨r,hr,_⟩
      ·exact hx.2
      ·omega
     refine ae ?_;refine vr 2 ?_;refine ab [2] ?_;refine aq ⟨.inr rfl,_,.tmp rfl (.nil),?_⟩;exact⟨T,DN,h4,mB.kept fg,fk.trans Rw.le,.inr ⟨k,rfl,bH,iO,CJ⟩⟩
    ·
     have jE:¬row<0:=by simpa using hb
     obtain⟨rr,yy,nD,fU,lF⟩:∃r:Nat,row=(r:Int)∧r<T.m∧0<T.A r k∧∀i,i<T.m→0<T.A i k→T.A r T.n/T.A r k<T.A i T.n/T.A i k∨(T.A r T.n/T.A r k=T.A i T.n/T.A i k∧T.B r≤T.B i):=by
      rcases DO with hx | ⟨r,h1,h2,h3,_,h5⟩
      ·omega
      ·exact⟨r,h1,h2,h3,h5⟩
     have nt:T.sy L.u rr k:=⟨bH,iO,qK,nD,fU,lF⟩;obtain⟨_,_,aa8,_,_⟩:=hinv _ (Rs _ _ _ DN nt);refine aw ?_;refine ag [0,3,4] rfl ?_;refine aE rfl ?_;refine vr 3 ?_;refine ar rfl rfl (by rw[yy];exact Ro (N:=N) h4 (mB.kept fg) nD (by omega) (by grind) cP aa8 (by omega) hw aa6) ?_;rintro v9 H9 ⟨h9,hc9,DS⟩;refine aA ?_;exact⟨T.pivot rr k,⟨rr,k,nt,rfl⟩,au,h9,hc9,Rs _ _ _ DN nt,(fk.trans Rw.le).trans DS⟩
end Go.ay
namespace Go.ay
open Go.Proofs Num Lp
structure DT(K H:Heap)(G:TG)(L:TL)(T:ao):Prop where
 kh:Heap.le K H
 cell:∀(k:Nat)(v:Value),(G.cells L.w L.u T.m)[k]? = some v→ay.cell H ((⟨G.g,0,none⟩:Addr).add k)=some v
 rows:∃xs,Rd H G.Ar xs∧∀i,i<T.m→∃p:Nat×Nat,xs[i]? = some (.slice (some ⟨p.1,0,none⟩) (L.w+1) p.2)∧kt K H p.1 (aT (T.A i) (L.w+1))
 basis:T.m=0∨∃gb cb,G.bv = .slice (some ⟨gb,0,none⟩) T.m cb∧Rd H (some ⟨gb,0,none⟩) (j0 T.B T.m)
 Ry:T.m=0→∃A c,G.bv = .slice A 0 c
 plus:aC sH 1 H G.pv L.plus
 minus:aC yz 1 H G.mv L.minus
 jy:aC sH 1 H G.uv L.jy
 js:aC bo 3 K G.sv L.js
theorem dC.w{H0 K H:Heap}{G:TG}{L:TL}{T:ao}(h:dC H0 G L T)(hle:Heap.le (rem H0 G.gs) K)(hk:Heap.le K H)(hs:∀q,q∈G.gs→H q=H0 q):DT K H G L T where
 kh:=hk
 cell:=fun k v hv=>by
  have:=hs _ G.qi
  simp[ay.cell,kQ,this,h.st,hv]
 rows:=by
  obtain⟨xs,h1,h2⟩:=h.rows
  refine⟨xs,h1.le (hle.trans hk),fun i hi=> ?_⟩
  obtain⟨p,hp⟩:=h.get hi
  exact⟨p,h2 i p hp,(h.row i p hp).le hle (hs _ (TG.oB hp))⟩
 basis:=by
  rcases h.basis with h1 | ⟨gb,cb,sz,h1,h2,h3⟩
  ·exact .inl h1.1
  ·exact .inr ⟨gb,cb,h2,qX (by rw[hs _ (TG.ue (by rw[h1];exact List.mem_singleton.2 rfl))];exact h3)⟩
 Ry:=fun hm=>by
  rcases h.basis with h1 | ⟨gb,cb,sz,h1,h2,h3⟩
  ·exact⟨none,0,h1.2.2⟩
  ·exact⟨_,cb,by rw[h2,hm]⟩
 plus:=(h.plus.le lG hle).le lG hk
 minus:=(h.minus.le sI hle).le sI hk
 jy:=(h.jy.le lG hle).le lG hk
 js:=h.js.le fD hle
theorem dC.self{H:Heap}{G:TG}{L:TL}{T:ao}(h:dC H G L T):DT (rem H G.gs) H G L T:=h.w (.refl _) (bG _ _) (fun _ _=>rfl)
theorem DT.bv{K H:Heap}{G:TG}{L:TL}{T:ao}(h:DT K H G L T):∃A c,G.bv = .slice A T.m c∧Rd H A (j0 T.B T.m):=by
 rcases h.basis with h1 | ⟨gb,cb,h1,h2⟩
 ·obtain⟨A,c,h2⟩:=h.Ry h1
  refine⟨A,c,by rw[h1];exact h2,fun i v hv=> ?_⟩
  rw[h1]at hv
  simp[j0]at hv
 ·exact⟨_,cb,h1,h2⟩
theorem aC.one{α:Type}{P:Heap→List Value→α→Prop}{H:Heap}{v:Value}{l:List α}(h:aC P 1 H v l):∃A c xs,v = .slice A l.length c∧Rd H A xs∧∀(i:Nat)(a:α),l[i]? = some a→∃u,xs[i]? = some u∧P H [u] a:=by
 obtain⟨A,c,xs,h1,_,h3,h4⟩:=h
 exact⟨A,c,xs,h1,h3,fun i a ha=>h4.one ha⟩
theorem aC.num{H:Heap}{v:Value}{l:List Rat}(h:aC bo 3 H v l):∃A c xs,v = .slice A l.length c∧Rd H A xs∧∀(i:Nat)(q:Rat),l[i]? = some q→∃n d b,bo H [.int .i64 n,.int .i64 d,.pointer b] q∧∀(j:Nat)(u:Value),[.int .i64 n,.int .i64 d,.pointer b][j]? = some u→xs[i*3+j]? = some u:=by
 obtain⟨A,c,xs,h1,_,h3,h4⟩:=h
 refine⟨A,c,xs,h1,h3,fun i q hq=> ?_⟩
 obtain⟨vs,_,h5,h6⟩:=h4.get hq
 obtain⟨n,d,b,rfl⟩:=h5.cells
 exact⟨n,d,b,h5,h6⟩
structure eD(gs:List Nat)(H0 H:Heap)(z:Nat)(xs:List Value)(sz e:Nat):Prop where
 aB:H z=some ⟨xs,sz,e,true⟩
 zn:H0 z=none
 zg:¬z∈gs
 le:Heap.le (rem H0 gs) (rem H (z::gs))
 same:∀q,q∈gs→H q=H0 q
section
variable {gs:List Nat} {H0 H H':Heap} {z:Nat} {xs oR:List Value} {sz e:Nat}
theorem eD.new(hn:∀q,q∈gs→H0 q≠none)(hz:H0 z=none):eD gs H0 (ins H0 z ⟨xs,sz,e,true⟩) z xs sz e:=
 ⟨bT _ _ _,hz,fun h=>hn z h hz,by rw[se _ hz];exact .refl _,fun q hq=>bP _ _ (fun e=>hn q hq (by rw[e];exact hz))⟩
theorem eD.ne(h:eD gs H0 H z xs sz e)(hn:∀q,q∈gs→H0 q≠none):∀q,q∈z::gs→H q≠none:=fun q hq=>by
 rcases List.mem_cons.1 hq with rfl | hq
 ·rw[h.aB];simp
 ·rw[h.same q hq];exact hn q hq
theorem eD.kept(h:eD gs H0 H z xs sz e)(k:Kept (z::gs) H H'):eD gs H0 H' z xs sz e:=
 ⟨by rw[k.same z (List.mem_cons_self ..)];exact h.aB,h.zn,h.zg,h.le.trans k.le,fun q hq=>(k.same q (List.mem_cons_of_mem _ hq)).trans (h.same q hq)⟩
theorem eD.set(h:eD gs H0 H z xs sz e){en:aQ}(he:en=⟨oR,sz,e,true⟩):eD gs H0 (ins H z en) z oR sz e:=
 ⟨by rw[bT,he],h.zn,h.zg,by rw[cK _ (List.mem_cons_self ..)];exact h.le,fun q hq=>by rw[bP _ _ (fun(e':q=z)=>h.zg (by rw[←e'];exact hq))];exact h.same q hq⟩
theorem eD.hle(h:eD gs H0 H z xs sz e):Heap.le H0 H:=fun g en hg=>by
 by_cases hm:g∈gs
 ·exact⟨en,by rw[h.same g hm];exact hg,.refl en⟩
 ·obtain⟨e',h1,h2⟩:=h.le g en (by rw[bY hm];exact hg)
  obtain⟨JS,h3,h4⟩:=bG H (z::gs) g e' h1
  exact⟨JS,h3,h2.trans h4⟩
theorem eD.done(h:eD gs H0 H z xs sz e):Kept gs H0 H∧Heap.le (rem H (z::gs)) (rem H gs):=⟨⟨h.le.trans (Hr H z gs),h.same⟩,Hr H z gs⟩
theorem eD.rd(h:eD gs H0 H z xs sz e):Rd (rem H gs) (some ⟨z,0,none⟩) xs:=fun i v hv=>⟨_,rfl,by simp[ay.cell,kQ,bY h.zg,h.aB,hv]⟩
theorem eD.tab{H:Heap}{G:TG}{L:TL}{T:ao}(ht:dC H0 G L T)(h:eD G.gs H0 H z xs sz e):DT (rem H (z::G.gs)) H G L T:=ht.w h.le (bG _ _) h.same
end
structure Bt{α:Type}(P:Heap→List Value→α→Prop)(s:Nat)(gs:List Nat)(H:Heap)(l:List α)(v:Value)(H':Heap):Prop where
 kept:Kept gs H H'
 le:Heap.le H H'
 val:aC P s (rem H' gs) v l
theorem Fn.HZ{α:Type}{P:Heap→List Value→α→Prop}{s:Nat}{Q:Program}{f:FuncId}{args:Array Value}{H:Heap}{gs:List Nat}{l:List α}(sh:∀g,g∈gs→H g≠none)(h:Fn Q f args (rem H gs) (Lr P s (rem H gs) l)):Fn Q f args H (Bt P s gs H l):=
 (Fn.frame sh h).mono fun v H' hf=>⟨.of hf fun v K hp=>hp.1,hf.le fun v K hp=>hp.1,hf.post.2⟩
structure FrZ(gs:List Nat)(H:Heap)(n:Nat)(v:Value)(H':Heap):Prop where
 le:Heap.le H H'
 val:∃z xs,v = .slice (some ⟨z,0,none⟩) n n∧eD gs H H' z xs (n*3) 90∧∀K:Heap,bI (bo K) 3 xs (aT (fun _=>0) n)
theorem aa9(n:Nat):aT (fun _=>0) n=List.replicate n 0:=by
 apply List.ext_getElem?
 intro i
 by_cases h:i<n
 ·rw[fp h,List.getElem?_replicate,if_pos h]
 ·rw[List.getElem?_eq_none (by rw[cS];omega),List.getElem?_eq_none (by rw[List.length_replicate];omega)]
theorem Bu{H:Heap}{gs:List Nat}(sh:∀g,g∈gs→H g≠none){n:Nat}(hn:(n:Int)≤8796093022208):Fn Tryz.prog 56 #[.int .i64 (n:Int)] H (FrZ gs H n):=
 (aaE hn).mono fun v H' ⟨g,xs,h1,h2,h3,h4⟩=>by
  rw[List.length_replicate]at h2 h3
  refine⟨by rw[h3];exact Heap.bC _ h1,g,xs,h2,by rw[h3];exact .new sh h1,fun K=>by rw[aa9];exact h4 K⟩
def fE(f:Nat→Rat)(k:Nat)(q:Rat)(j:Nat):Rat:=if j=k then q else f j
theorem aba{f:Nat→Rat}{n k:Nat}{q:Rat}:(aT f n).set k q=aT (fE f k q) n:=by
 apply List.ext_getElem?
 intro j
 by_cases hj:j<n
 ·by_cases e:j=k
  ·subst e
   rw[List.getElem?_set_self (by rw[cS];exact hj),fp hj];simp[fE]
  ·rw[List.getElem?_set_ne (fun e'=>e e'.symm),fp hj,fp hj];simp[fE,e]
 ·rw[List.getElem?_eq_none (by rw[List.length_set,cS];omega),List.getElem?_eq_none (by rw[cS];omega)]
theorem qk{K:Heap}{xs vs:List Value}{f:Nat→Rat}{n k:Nat}{q:Rat}(h:bI (bo K) 3 xs (aT f n))(hk:k<n)(hv:bo K vs q):bI (bo K) 3 (aF xs (k*3) vs) (aT (fE f k q) n):=by
 rw[←aba];exact h.set (by rw[cS];exact hk) hv hv.len
theorem mJ{xs vs:List Value}{s e k sz:Nat}:({(⟨xs,s,e,true⟩:aQ)with xs:=aF xs (0+k*sz) vs}:aQ)=⟨aF xs (k*sz) vs,s,e,true⟩:=by rw[Nat.zero_add]
end Go.ay
namespace Go.ay
open Go.Proofs Num Lp
theorem abb{u k:Nat}(h:u≤k)(j:Nat):ao.jL u (k+1) j=fE (ao.jL u k) k 1 j:=by
 unfold fE ao.jL
 by_cases e:j=k
 ·rw[if_pos (by omega),if_pos e]
 ·rw[if_neg e]
  by_cases e2:u≤j∧j<k
  ·rw[if_pos (by omega)];simp only[e2,and_self,if_true]
  ·rw[if_neg (by omega)];simp only[e2,if_false]
theorem Rz{H:Heap}{G:TG}{L:TL}{T:ao}(h:dC H G L T)(hc:ie H G L T)(hs:(aJ (T.c L.w):Int)≤1099511627776):
 Fn Tryz.prog 52 #[.pointer (some ⟨G.g,0,none⟩)] H (Rf G.gs H (-(T.c L.w))):=by
 obtain⟨gc,cc,DL,uh,yD⟩:=id hc
 obtain⟨xc,nc,dc,bc,wm,vz,DM⟩:=yD.rd (fp (show L.w<L.w+1 by omega))
 have gw:cell H ((⟨G.g,0,none⟩:Addr).add 7)=some (.slice (some ⟨gc,0,none⟩) (L.w+1) cc):=by rw[←uh];exact h.cell rfl
 refine aU (args:=[_]) Tryz.func52 rfl rfl Tryz.ntmps52 rfl rfl fun w0=> ?_;refine ag [0] rfl ?_;refine ae ?_;refine bh dT rfl ?_;refine ab [0,2] ?_;refine bL .bn [0,1,2,3,4,5,6,7,8,9,10,11] follows (by kernel_rfl) ?_;refine vr 2 ?_;refine bJ af rfl rfl rfl ?_;refine aZ af rfl rfl rfl (gw) ?_;refine vr 2 ?_;refine bJ af rfl rfl rfl ?_;refine aZ af rfl rfl rfl (h.Bp) ?_;refine cI (vs:=[.int .i64 nc,.int .i64 dc,.pointer bc]) af rfl rfl rfl rfl wm rfl (by decide) (by rw[Int.toNat_natCast];exact DM) (by omega) (by omega) fun _=> ?_;refine aH rfl rfl (Fn.iy h.ne (AO vz hs)) (fun _ _ h=>by first | exact h.le | exact h.1) ?_;rintro v1 H1 ⟨iU,aI,n1,d1,b1,rfl,cn⟩;obtain⟨ti,aj,ak⟩:=bV;refine aG (.inl ⟨rfl,rfl⟩) rfl rfl rfl aj ak rfl rfl rfl ?_;refine ab [2] ?_;obtain⟨bX,aK,aL⟩:=bV;refine aq ⟨.inr rfl,_,.agg rfl Tryz.underlying90 aK aL (.nil),?_⟩;exact⟨iU,aI,n1,d1,b1,rfl,cn⟩
theorem RA{H:Heap}{G:TG}{L:TL}{T:ao}(h:dC H G L T)(hw:(L.w:Int)≤1000000):
 Fn Tryz.prog 50 #[.pointer (some ⟨G.g,0,none⟩)] H (Bt bo 3 G.gs H (aT (ao.jL L.u L.w) L.w)):=by
 have oC:=h.uw;refine aU (args:=[_]) Tryz.func50 rfl rfl Tryz.ntmps50 rfl rfl fun w0=> ?_;refine ag [0] rfl ?_;refine ae ?_;refine vr 1 ?_;refine ab [0] ?_;refine ae ?_;refine vr 2 ?_;refine bJ af rfl rfl rfl ?_;refine aZ af rfl rfl rfl (h.Bp) ?_;refine ar rfl rfl (Bu h.ne (by omega)) ?_;rintro v1 H1 ⟨aI,z,xs,rfl,jM,gT⟩;have fi:=jM.tab h;refine vr 1 ?_;refine ab [0,3] ?_;refine al ?_;refine ae ?_;refine vr 2 ?_;refine bJ af rfl rfl rfl ?_;refine aZ af rfl rfl rfl (fi.cell 1 _ rfl) ?_;refine vr 1 ?_;refine ab [0,3,4] ?_;refine aD ?_;refine jT (fun(k:Nat)(xs:List Value)=>L.w-k) (fun(k:Nat)(xs:List Value)=>put (put (put (emp) 0 (.val (.pointer (some ⟨G.g,0,none⟩)))) 3 (.val (.slice (some ⟨z,0,none⟩) L.w L.w))) 4 (.val (.int .i64 (k:Int)))) (fun(k:Nat)(xs:List Value) H'=>eD G.gs H H' z xs (L.w*3) 90∧(∀K:Heap,bI (bo K) 3 xs (aT (ao.jL L.u k) L.w))∧L.u≤k∧k≤L.w) L.u xs (⟨jM,fun K=>by rw[ks (g:=fun _=>0) (fun j _=>by unfold ao.jL;rw[if_neg (by omega)])];exact gT K,Nat.le_refl _,oC⟩) au ?_;rintro k xs H2 ⟨eh,j5,Ia,hkw⟩;have jY:=eh.tab h;have cj:=(j5 H).len;rw[cS]at cj;refine al ?_;refine ae ?_;refine vr 3 ?_;refine bJ af rfl rfl rfl ?_
 refine aZ af rfl rfl rfl (by have:=jY.cell 0 _ rfl;rwa [kQ]at this) ?_;refine vr 1 ?_;refine ab [0,3,4,19] ?_;refine az rfl (fun hb=> ?_) (fun hb=> ?_)
 ·
  have hb:k<L.w:=by simpa using hb
  refine aw ?_;refine ag [0,3,4] rfl ?_;refine al ?_;refine aD ?_;refine aE rfl ?_;refine vr 2 ?_;refine ar rfl rfl (oy) ?_;rintro v3 H3 ⟨e3,rfl⟩;rw[e3];obtain⟨ti,aj,ak⟩:=bV;refine eB (.inl rfl) af rfl rfl rfl (by omega) (by omega) (eh.aB) rfl (by show 0+L.w*3≤xs.length;omega) aj ak (fun _=>rfl) rfl rfl rfl fun _=> ?_;refine aA ?_;refine ag [0,3,4] rfl ?_;refine aE rfl ?_;refine vr 1 ?_;refine aN rfl rfl ⟨by omega,by omega⟩ ?_;refine vr 1 ?_;refine aA ?_;exact⟨k+1,aF xs (k*3) [.int .i64 1,.int .i64 1,.pointer none],by omega,au,eh.set mJ,fun K=>by rw[ks (g:=fE (ao.jL L.u k) k 1) (fun j _=>abb Ia j)];exact qk (j5 K) hb (ow K (n:=1) (by decide) (by decide)),by omega,by omega⟩
 ·
  have hb:L.w≤k:=by simpa using hb
  obtain rfl:k=L.w:=by omega
  refine bB ?_;refine ag [3] rfl ?_;refine ae ?_;refine vr 2 ?_;refine ab [2] ?_;refine aq ⟨.inr rfl,_,.tmp rfl (.nil),?_⟩;exact⟨eh.done.1,eh.hle,some ⟨z,0,none⟩,L.w,xs,by rw[cS];rfl,by rw[cS];exact Nat.le_refl _,eh.rd,j5 _⟩
theorem abc{H:Heap}{G:TG}{L:TL}{T0:ao}{N:Nat}{J:Nat→ao→Prop}(h:dC H G L T0)(hc:ie H G L T0)(hJ:J 0 T0)(RB:∀k S,J k S→k<S.m→(S.B k<L.u∨∀j,j<L.u→S.A k j=0)→J (k+1) S)
 (abd:∀k S s,J k S→k<S.m→L.u≤S.B k→s<L.u→S.A k s≠0→J (k+1) (S.pivot k s)) (hinv:∀k S,J k S→Sz N S∧S.m=T0.m∧S.n=T0.n) (hN:(N:Int)≤137438953472) (hw:(L.w:Int)≤1000000) (hm:(T0.m:Int)≤1000000):
 Fn Tryz.prog 55 #[.pointer (some ⟨G.g,0,none⟩)] H (fun _ H'=>∃T,J T0.m T∧dC H' G L T∧ie H' G L T∧Heap.le (rem H G.gs) (rem H' G.gs)):=by
 have oC:=h.uw
 obtain⟨Ab,cb,kA,_⟩:=h.self.bv
 have jt:cell H ((⟨G.g,0,none⟩:Addr).add 8)=some (.slice Ab T0.m cb):=by rw[←kA];exact h.cell rfl
 refine aU (args:=[_]) Tryz.func55 rfl rfl Tryz.ntmps55 rfl rfl fun w0=> ?_;refine ag [0] rfl ?_;refine ae ?_;refine vr 2 ?_;refine bJ af rfl rfl rfl ?_;refine aZ af rfl rfl rfl (jt) ?_;refine vr 2 ?_;refine ab [0,8,9,10] ?_;refine aD ?_;refine jT (fun(k:Nat)(T:ao)=>T0.m-k) (fun(k:Nat)(T:ao)=>put (put (put (put (emp) 0 (.val (.pointer (some ⟨G.g,0,none⟩)))) 8 (.val (.slice Ab T0.m cb))) 9 (.val (.int .i64 (T0.m:Int)))) 10 (.val (.int .i64 (k:Int)))) (fun(k:Nat)(T:ao) H'=>dC H' G L T∧ie H' G L T∧J k T∧Heap.le (rem H G.gs) (rem H' G.gs)∧k≤T0.m) 0 T0 (⟨h,hc,hJ,.refl _,Nat.zero_le _⟩) au ?_;rintro k T H1 ⟨h1,jo,DU,fk,iU⟩;obtain⟨cP,ui,LK⟩:=hinv k T DU;obtain⟨A2,c2,DV,Dn⟩:=h1.self.bv;rw[kA]at DV
 obtain⟨rfl,-,rfl⟩:Ab=A2∧T0.m=T.m∧cb=c2:=by simpa using DV
 refine ae ?_;refine vr 1 ?_;refine ab [0,8,9,10,11] ?_;refine al ?_;refine az rfl (fun hb=> ?_) (fun hb=> ?_)
 ·
  have kz:k<T0.m:=by simpa using hb
  have yF:k<T.m:=by omega
  obtain⟨pk,pg⟩:=h1.get yF;refine aw ?_;refine ag [0,8,9,10] rfl ?_;refine al ?_;refine aD ?_;refine ae ?_;refine vr 1 ?_;refine a6 af rfl rfl rfl rfl rfl (Dn) (by rw[Int.toNat_natCast];exact uc yF) (by omega) (by omega) fun _=> ?_;refine vr 2 ?_;refine ab [0,2,3,8,9,10] ?_;refine al ?_;refine ae ?_;refine vr 3 ?_;refine bJ af rfl rfl rfl ?_;refine aZ af rfl rfl rfl (h1.cell rfl) ?_;refine vr 1 ?_;refine ab [0,2,8,9,10,20] ?_;refine az rfl (fun hb=> ?_) (fun hb=> ?_)
  ·
   have hb:T.B k<L.u:=by simp at hb;omega
   refine bB ?_;refine ag [0,8,9,10] rfl ?_;refine aE rfl ?_;refine aN rfl rfl ⟨by omega,by omega⟩ ?_;refine vr 1 ?_;refine aA ?_;exact⟨k+1,T,by omega,au,h1,jo,RB k T DU yF (.inl hb),fk,by omega⟩
  ·
   have hBu:L.u≤T.B k:=by simp at hb;omega
   refine aw ?_;refine ag [0,2,8,9,10] rfl ?_;refine ae ?_;refine vr 2 ?_;refine bJ af rfl rfl rfl ?_;refine aZ af rfl rfl rfl (h1.cell rfl) ?_;refine vr 1 ?_;refine ab [0,2,8,9,10,24,25] ?_;refine aD ?_;refine ft (fun(j:Nat)=>L.u-j) (fun(j:Nat)=>put (put (put (put (put (put (put (emp) 0 (.val (.pointer (some ⟨G.g,0,none⟩)))) 2 (.val (.int .i64 (k:Int)))) 8 (.val (.slice Ab T0.m cb))) 9 (.val (.int .i64 (T0.m:Int)))) 10 (.val (.int .i64 (k:Int)))) 24 (.val (.int .i64 (L.u:Int)))) 25 (.val (.int .i64 (j:Int)))) (fun(j:Nat) H'=>Kept G.gs H1 H'∧j≤L.u∧∀i,i<j→T.A k i=0) 0 (⟨.refl _ _,Nat.zero_le _,fun i hi=>by omega⟩) au ?_;rintro j H3 ⟨eG,hju,q6⟩;have h3:=h1.kept eG;refine ae ?_;refine vr 1 ?_;refine ab [0,2,8,9,10,24,25,26] ?_;refine al ?_;refine az rfl (fun hb=> ?_) (fun hb=> ?_)
   ·
    have RD:j<L.u:=by simpa using hb
    obtain⟨RE,DW,ic⟩:=h3.rows;obtain⟨xj,nj,dj,bj,hrj,hnj,hxj⟩:=(h3.row k pk pg).rd (fp (show j<L.w+1 by omega));have hsj:=cP.A k yF j (by rw[h1.n];omega);refine aw ?_;refine ag [0,2,8,9,10,24,25] rfl ?_;refine al ?_;refine aD ?_;refine ae ?_;refine vr 2 ?_;refine ab [0,2,4,8,9,10,24,25] ?_;refine ae ?_;refine vr 2 ?_;refine bJ af rfl rfl rfl ?_;refine aZ af rfl rfl rfl (h3.cell rfl) ?_;refine vr 1 ?_;refine a6 af rfl rfl rfl rfl rfl (DW.le (bG _ _)) (by rw[Int.toNat_natCast];exact ic k pk pg) (by omega) (by omega) fun _=> ?_;refine vr 1 ?_;refine cI (vs:=[.int .i64 nj,.int .i64 dj,.pointer bj]) af rfl rfl rfl rfl hrj rfl (by decide) (by rw[Int.toNat_natCast];exact hxj) (by omega) (by omega) fun _=> ?_;refine ar rfl rfl (Fn.qh h3.ne (iN hnj (by omega))) ?_;rintro v4 H4 ⟨fg,bE,rfl⟩;have h4:=h3.kept fg;refine vr 1 ?_;refine ab [0,2,4,8,9,10,24,25,39] ?_;refine az rfl (fun hb=> ?_) (fun hb=> ?_)
    ·
     have RF:T.A k j≠0:=fun e=>by rw[e]at hb;simp[dF]at hb
     have RG:=abd k T j DU yF hBu RD RF;obtain⟨abe,_,_⟩:=hinv _ _ RG;refine ae ?_;refine vr 3 ?_;refine ar rfl rfl (Ro (N:=N) h4 ((jo.kept eG).kept fg) yF (by omega) RF cP abe (by omega) hw (by omega)) ?_;rintro v5 H5 ⟨h5,DX,gZ⟩;refine ab [0,8,9,10] ?_;refine bB ?_;refine ag [0,8,9,10] rfl ?_;refine aE rfl ?_;refine aN rfl rfl ⟨by omega,by omega⟩ ?_;refine vr 1 ?_;refine aA ?_;exact⟨k+1,T.pivot k j,by omega,au,h5,DX,RG,(fk.trans (eG.trans fg).le).trans gZ,by omega⟩
    ·
     have hb:T.A k j=0:=wg (by simpa using hb);refine aw ?_;refine ag [0,2,8,9,10,24,25] rfl ?_;refine aE rfl ?_;refine aN rfl rfl ⟨by omega,by omega⟩ ?_;refine vr 1 ?_;refine aA ?_;exact⟨j+1,by omega,au,eG.trans fg,by omega,fun i hi=>by by_cases e:i=j;(rw[e];exact hb);exact q6 i (by omega)⟩
   ·
    have hb:L.u≤j:=by simpa using hb
    obtain rfl:j=L.u:=by omega
    refine bB ?_;refine ag [0,8,9,10] rfl ?_;refine aE rfl ?_;refine aN rfl rfl ⟨by omega,by omega⟩ ?_;refine vr 1 ?_;refine aA ?_;exact⟨k+1,T,by omega,au,h3,jo.kept eG,RB k T DU yF (.inr q6),fk.trans eG.le,by omega⟩
 ·
  have hb:T0.m≤k:=by simpa using hb
  obtain rfl:k=T0.m:=by omega
  refine bB ?_;refine⟨.inl rfl,_,.nil,?_⟩;exact⟨T,DU,h1,jo,fk⟩
end Go.ay
namespace Go.ay
open Go.Proofs Num Lp
def TL.pF(L:TL)(j:Nat):Nat:=L.plus.getD j 0
def TL.mZ(L:TL)(j:Nat):Int:=L.minus.getD j (-1)
def TL.mF(L:TL)(j:Nat):Option Nat:=if 0≤L.mZ j then some (L.mZ j).toNat else none
def TL.uF(L:TL)(i:Nat):Nat:=L.jy.getD i 0
def TL.sF(L:TL)(i:Nat):Rat:=fn L.js i
structure TL.Ok(L:TL)(n m:Nat):Prop where
 Ib:L.plus.length=n
 Ic:L.minus.length=n
 LN:L.jy.length=m
 LO:L.js.length=m
 pw:∀j,j<n→L.pF j<L.w
 mw:∀j,j<n→L.mZ j<L.w
 uw:∀i,i<m→L.uF i<L.w
 s1:∀i,i<m→aJ (L.sF i)≤1
section
variable {L:TL} {n m:Nat}
theorem TL.Ok.p(h:L.Ok n m){j:Nat}(hj:j<n):L.plus[j]? = some (L.pF j):=by
 have:j<L.plus.length:=by rw[h.Ib];exact hj
 simp[TL.pF,List.getD,List.getElem?_eq_getElem this]
theorem TL.Ok.mi(h:L.Ok n m){j:Nat}(hj:j<n):L.minus[j]? = some (L.mZ j):=by
 have:j<L.minus.length:=by rw[h.Ic];exact hj
 simp[TL.mZ,List.getD,List.getElem?_eq_getElem this]
theorem TL.Ok.u(h:L.Ok n m){i:Nat}(hi:i<m):L.jy[i]? = some (L.uF i):=by
 have:i<L.jy.length:=by rw[h.LN];exact hi
 simp[TL.uF,List.getD,List.getElem?_eq_getElem this]
theorem TL.Ok.s(h:L.Ok n m){i:Nat}(hi:i<m):L.js[i]? = some (L.sF i):=by
 have:i<L.js.length:=by rw[h.LO];exact hi
 simp[TL.sF,fn,List.getD,List.getElem?_eq_getElem this]
end
theorem abf{α:Type}(l:List α)(k:Nat)(a b:α):(l.set k a).set k b=l.set k b:=by simp
theorem LQ{K:Heap}{xs vs:List Value}{l:List (Option Rat)}{k:Nat}{q:Rat}(h:bI (jr bo K) 3 xs l)(hk:k<l.length)(hv:bo K vs q):bI (jr bo K) 3 (aF xs (k*3) vs) (l.set k (some q)):=h.set hk (show jr bo K vs (some q)from hv) hv.len
theorem RH{K:Heap}{xs:List Value}{f:Nat→Rat}{n:Nat}(h:bI (jr bo K) 3 xs (fill (aT f n) n)):bI (bo K) 3 xs (aT f n):=HJ (by rw[cS];exact h)
theorem RI{H:Heap}{G:TG}{L:TL}{T:ao}{n m N:Nat}{v:Value}{f:Nat→Rat}(h:dC H G L T)(hL:L.Ok n m)(hv:aC bo 3 (rem H G.gs) v (aT f L.w))(hf:∀j,j<L.w→aJ (f j)≤N)(hN:(N:Int)≤274877906944)(hw:(L.w:Int)≤1000000)(hn:(n:Int)≤1000000):
 Fn Tryz.prog 132 #[.pointer (some ⟨G.g,0,none⟩),v] H (Bt gI 3 G.gs H (aT (dK.vec L.pF L.mF f) n)):=by
 obtain⟨Av,cv,xv,rfl,j6,rN⟩:=hv.num
 rw[cS]
 have wq:=h.self
 obtain⟨Ap,cp,xp,sK,fU,yC⟩:=wq.plus.one
 obtain⟨Am,cm,xm,sL,nD,DY⟩:=wq.minus.one
 rw[hL.Ib]at sK
 rw[hL.Ic]at sL
 obtain⟨l,hl⟩:∃l,l=dK.vec L.pF L.mF f:=⟨_,rfl⟩
 have aM:cell H ((⟨G.g,0,none⟩:Addr).add 2)=some (.slice Ap n cp):=by rw[←sK];exact h.cell rfl
 refine aU (args:=[_,_]) Tryz.func132 rfl rfl Tryz.ntmps132 rfl rfl fun w0=> ?_;refine ag [0,1] rfl ?_;refine ae ?_;refine vr 1 ?_;refine ab [0,1] ?_;refine ae ?_;refine vr 2 ?_;refine bJ af rfl rfl rfl ?_;refine aZ af rfl rfl rfl (aM) ?_;refine vr 1 ?_;refine jS Tryz.underlying85 dT rfl rfl rfl (by omega) (by omega) (by omega) (by omega) ?_;intro z ug;rw[show ((n:Int)).toNat=n from by omega];have jM:eD G.gs H _ z (de [.int .i64 0,.int .i64 0,.pointer none] (n*3)) (n*3) 90:=eD.new h.ne ug
 have gT:bI (jr bo (rem (ins H z ⟨de [.int .i64 0,.int .i64 0,.pointer none] (n*3),n*3,90,true⟩) (z::G.gs))) 3 (de [.int .i64 0,.int .i64 0,.pointer none] (n*3)) (fill (aT l n) 0):=by have:=DF (P:=bo) (H:=rem (ins H z ⟨de [.int .i64 0,.int .i64 0,.pointer none] (n*3),n*3,90,true⟩) (z::G.gs)) (zs:=[.int .i64 0,.int .i64 0,.pointer none]) (sz:=3) (by rfl) (aT l n);rwa [cS]at this
 refine vr 1 ?_;refine ab [0,1,5] ?_;refine al ?_;refine ae ?_;refine vr 3 ?_;refine ab [0,1,5,14,15] ?_;refine aD ?_;refine jT (fun(k:Nat)(xs:List Value)=>n-k) (fun(k:Nat)(xs:List Value)=>put (put (put (put (put (emp) 0 (.val (.pointer (some ⟨G.g,0,none⟩)))) 1 (.val (.slice Av L.w cv))) 5 (.val (.slice (some ⟨z,0,none⟩) n n))) 14 (.val (.int .i64 (n:Int)))) 15 (.val (.int .i64 (k:Int)))) (fun(k:Nat)(xs:List Value) H'=>eD G.gs H H' z xs (n*3) 90∧bI (jr bo (rem H' (z::G.gs))) 3 xs (fill (aT l n) k)∧k≤n) 0 _ (⟨jM,gT,Nat.zero_le _⟩) au ?_;rintro k xs H2 ⟨eh,j5,jf⟩;have l7:=Bh (l:=aT l n) (k:=k) (by rw[cS];exact jf);rw[cS]at l7;have cj:=j5.len;rw[l7]at cj;have jY:=eh.tab h;have lQ:=eh.hle;refine ae ?_;refine vr 1 ?_;refine ab [0,1,5,14,15,16] ?_;refine al ?_;refine az rfl (fun hb=> ?_) (fun hb=> ?_)
 ·
  have fK:k<n:=by simpa using hb
  obtain⟨up,DZ,D3⟩:=yC k _ (hL.p fK);obtain⟨um,wu,D4⟩:=DY k _ (hL.mi fK)
  cases D3
  cases D4
  have vk:=hL.pw k fK;have RJ:=hL.mw k fK;obtain⟨n1,d1,b1,dO,ee⟩:=rN _ _ (fp vk);have jG:=hf _ vk;have abg:=fU.le lQ;have af6:=nD.le lQ;have Bv:=(j6.le eh.le).le (bG _ _)
  have abh:cell H2 ((⟨G.g,0,none⟩:Addr).add 2)=some (.slice Ap n cp):=by rw[←sK];exact jY.cell 2 _ rfl
  refine aw ?_;refine ag [0,1,5,14,15] rfl ?_;refine al ?_;refine aD ?_;refine ae ?_;refine vr 2 ?_;refine ab [0,1,5,6,14,15] ?_;refine ae ?_;refine vr 5 ?_;refine bJ af rfl rfl rfl ?_;refine aZ af rfl rfl rfl (abh) ?_;refine vr 1 ?_;refine a6 af rfl rfl rfl rfl rfl (abg) (by rw[Int.toNat_natCast];exact DZ) (by omega) (by omega) fun _=> ?_;refine cI (vs:=[.int .i64 n1,.int .i64 d1,.pointer b1]) af rfl rfl rfl rfl Bv rfl (by decide) (by rw[Int.toNat_natCast];exact ee) (by omega) (by omega) fun _=> ?_;obtain⟨ti,aj,ak⟩:=bV;refine eB (.inl rfl) af rfl rfl rfl (by omega) (by omega) (eh.aB) rfl (by show 0+n*3≤xs.length;omega) aj ak (fun _=>rfl) rfl rfl rfl fun _=> ?_;refine ab [0,1,5,6,14,15] ?_;have gx:eD G.gs H _ z (aF xs (k*3) [.int .i64 n1,.int .i64 d1,.pointer b1]) (n*3) 90:=eh.set (mJ (k:=k) (sz:=3))
  have pj:bI (jr bo (rem (ins H2 z {(⟨xs,n*3,90,true⟩:aQ)with xs:=aF xs (0+k*3) [.int .i64 n1,.int .i64 d1,.pointer b1]}) (z::G.gs))) 3 (aF xs (k*3) [.int .i64 n1,.int .i64 d1,.pointer b1]) ((fill (aT l n) k).set k (some (f (L.pF k)))):=by
   rw[cK _ (List.mem_cons_self ..)];exact LQ j5 (by rw[l7];exact fK) (dO.le eh.le)
  generalize D5:ins H2 z {(⟨xs,n*3,90,true⟩:aQ)with xs:=aF xs (0+k*3) [.int .i64 n1,.int .i64 d1,.pointer b1]}=H3 at gx pj
  have abi:ins H2 z {(⟨xs,n*3,90,true⟩:aQ)with xs:=aF xs (0+((k:Int)).toNat*3) [.int .i64 n1,.int .i64 d1,.pointer b1]}=H3:=D5;rw[show ∀e:aQ,e = {(⟨xs,n*3,90,true⟩:aQ)with xs:=aF xs (0+((k:Int)).toNat*3) [.int .i64 n1,.int .i64 d1,.pointer b1]}→ins H2 z e=H3 from fun e he=>by rw[he];exact abi]
  rotate_left
  ·rfl
  have KE:=gx.tab h;have RK:=nD.le gx.hle;have abj:=(j6.le gx.le).le (bG _ _)
  have a7:cell H3 ((⟨G.g,0,none⟩:Addr).add 3)=some (.slice Am n cm):=by rw[←sL];exact KE.cell 3 _ rfl
  refine ae ?_;refine vr 2 ?_;refine bJ af rfl rfl rfl ?_;refine aZ af rfl rfl rfl (a7) ?_;refine vr 1 ?_;refine a6 af rfl rfl rfl rfl rfl (RK) (by rw[Int.toNat_natCast];exact wu) (by omega) (by omega) fun _=> ?_;refine vr 1 ?_;refine ab [0,1,5,6,14,15,38] ?_;refine az rfl (fun hb=> ?_) (fun hb=> ?_)
  ·
   have hb:0≤L.mZ k:=by simpa using hb
   obtain⟨n2,d2,b2,iv,fm⟩:=rN _ _ (fp (show (L.mZ k).toNat<L.w by omega));have kj:=hf (L.mZ k).toNat (by omega)
   have ic:∀(j:Nat)(u:Value),[.int .i64 n1,.int .i64 d1,.pointer b1][j]? = some u→(aF xs (k*3) [.int .i64 n1,.int .i64 d1,.pointer b1])[k*3+j]? = some u:=fun j u hu=>by
    have hj:=(List.getElem?_eq_some_iff.1 hu).1
    simp only[List.length_cons,List.length_nil]at hj
    rw[K5 _ _ _ _ (by simp only[List.length_cons,List.length_nil];omega),if_pos (by simp only[List.length_cons,List.length_nil];omega),Nat.add_sub_cancel_left];exact hu
   refine eT .gO [0,1,2,3,4,5,6,7,8,9,10,11,12,13,14,15,16,17,18] follows (by kernel_rfl) ?_;refine vr 4 ?_;refine cI (vs:=[.int .i64 n1,.int .i64 d1,.pointer b1]) af rfl rfl rfl rfl (qX gx.aB) rfl (by decide) (by rw[Int.toNat_natCast];exact ic) (by omega) (by omega) fun _=> ?_;refine vr 3 ?_;refine bJ af rfl rfl rfl ?_;refine aZ af rfl rfl rfl (a7) ?_;refine vr 1 ?_;refine a6 af rfl rfl rfl rfl rfl (RK) (by rw[Int.toNat_natCast];exact wu) (by omega) (by omega) fun _=> ?_;refine cI (vs:=[.int .i64 n2,.int .i64 d2,.pointer b2]) af rfl rfl rfl rfl abj rfl (by decide) fm (by omega) (by omega) fun _=> ?_;refine aH rfl rfl (Fn.iy (gx.ne h.ne) (tZ (N:=N) (dO.le gx.le) (iv.le gx.le) jG kj (by omega))) (fun _ _ h=>by first | exact h.le | exact h.1) ?_;rintro v4 H4 ⟨fg,bE,n4,d4,b4,rfl,bR⟩;have nE:=gx.kept fg
   have af7:(aF xs (k*3) [.int .i64 n1,.int .i64 d1,.pointer b1]).length=n*3:=by rw[CP];exact cj
   obtain⟨ti,aj,ak⟩:=bV;refine eB (.inr rfl) af rfl rfl rfl (by omega) (by omega) (nE.aB) rfl (by show 0+n*3≤(aF xs (k*3) [.int .i64 n1,.int .i64 d1,.pointer b1]).length;omega) aj ak (fun _=>rfl) rfl rfl rfl fun _=> ?_;refine aA ?_;refine ag [0,1,5,14,15] rfl ?_;refine aE rfl ?_;refine aN rfl rfl ⟨by omega,by omega⟩ ?_;refine vr 1 ?_;refine aA ?_;exact⟨k+1,aF (aF xs (k*3) [.int .i64 n1,.int .i64 d1,.pointer b1]) (k*3) [.int .i64 n4,.int .i64 d4,.pointer b4],by omega,au,nE.set mJ,by rw[cK _ (List.mem_cons_self ..),←Bi (a:=f (L.pF k)-f (L.mZ k).toNat) (by rw[fp fK,hl];unfold dK.vec TL.mF;rw[if_pos hb];rfl),←abf (fill (aT l n) k) k (some (f (L.pF k)))];exact LQ (pj.mono fun vs a=>jr.up fD _ _ vs a fg.le) (by rw[List.length_set,l7];exact fK) bR,by omega⟩
  ·
   have hb:¬0≤L.mZ k:=by simpa using hb
   refine aw ?_;refine ag [0,1,5,14,15] rfl ?_;refine aE rfl ?_;refine aN rfl rfl ⟨by omega,by omega⟩ ?_;refine vr 1 ?_;refine aA ?_;exact⟨k+1,aF xs (k*3) [.int .i64 n1,.int .i64 d1,.pointer b1],by omega,au,gx,by rw[←Bi (a:=f (L.pF k)) (by rw[fp fK,hl];unfold dK.vec TL.mF;rw[if_neg hb];simp only[gp];rw[show f (L.pF k)-0=f (L.pF k) by grind])];exact pj,by omega⟩
 ·
  have hb:n≤k:=by simpa using hb
  obtain rfl:k=n:=by omega
  have kW:=eh.done;refine bB ?_;refine ag [5] rfl ?_;refine ae ?_;refine vr 1 ?_
  refine ar rfl rfl (Fn.HZ (kW.1.ne h.ne) (Q5 (l:=aT l k) ⟨some ⟨z,0,none⟩,k,xs,by rw[cS],by rw[cS];exact Nat.le_refl _,eh.rd,(RH j5).mono fun vs a=>fD _ _ vs a kW.2⟩ (fun q hq=>by
  obtain⟨j,hj,rfl⟩:=List.mem_map.1 hq;have hj:=List.mem_range.1 hj;rw[hl];have h1:=hf _ (hL.pw j hj);have h2:=hL.mw j hj
  unfold dK.vec TL.mF
  split
  ·
   have h3:=hf (L.mZ j).toNat (by omega);have h4:=qb (f (L.pF j)) (f (L.mZ j).toNat)
   simp only[gp];omega
  ·
   have h4:=qb (f (L.pF j)) 0;rw[Q4]at h4
   simp only[gp];omega) (by rw[cS];omega))) ?_
  rintro v9 H9 ⟨kB,gJ,nF⟩;refine vr 1 ?_;refine ab [4] ?_;refine aq ⟨.inr rfl,_,.tmp rfl (.nil),?_⟩;exact⟨kW.1.trans kB,eh.hle.trans gJ,by rw[←hl];exact nF⟩
end Go.ay
namespace Go.ay
open Go.Proofs Num Lp
def wv(T:ao)(k j:Nat):Rat:=aV k (fun i=>if T.B i=j then T.A i T.n else 0)
def yG(T:ao)(s k j:Nat):Rat:=(if j=s then 1 else 0)-aV k (fun i=>if T.B i=j then T.A i s else 0)
theorem abk{T:ao}(hW:T.WF){k:Nat}(hk:k<T.m)(j:Nat):wv T (k+1) j=fE (wv T k) (T.B k) (T.A k T.n) j:=by
 unfold wv fE
 rw[fJ]
 by_cases e:j=T.B k
 ·rw[if_pos e,if_pos e.symm,mE]
  ·grind
  ·intro i hi
   rw[if_neg (fun e'=>by have:=hW.inj (by omega) hk (e'.trans e);omega)]
 ·rw[if_neg e,if_neg (fun e'=>e e'.symm)];grind
theorem abl{T:ao}{j:Nat}(hj:j<T.n):wv T T.m j=T.pt j:=by
 unfold wv ao.pt
 rw[if_neg (by omega)]
theorem abm{T:ao}(hW:T.WF){s k:Nat}(hs:∀i,i<T.m→T.B i≠s)(hk:k<T.m)(j:Nat):yG T s (k+1) j=fE (yG T s k) (T.B k) (-(T.A k s)) j:=by
 unfold yG fE
 rw[fJ]
 by_cases e:j=T.B k
 ·rw[if_pos e,if_pos e.symm,mE,if_neg (fun e'=>hs k hk (by rw[←e,e']))]
  ·grind
  ·intro i hi
   rw[if_neg (fun e'=>by have:=hW.inj (by omega) hk (e'.trans e);omega)]
 ·rw[if_neg e]
  have e2:(if T.B k=j then T.A k s else 0)=0:=if_neg (fun e'=>e e'.symm)
  rw[e2];grind
theorem RL{H:Heap}{G:TG}{L:TL}{T:ao}{n m N:Nat}(h:dC H G L T)(hW:T.WF)(hL:L.Ok n m)(hz:∀j,j<L.w→aJ (T.pt j)≤N)(hN:(N:Int)≤274877906944)(hw:(L.w:Int)≤1000000)(hn:(n:Int)≤1000000)(hm:(T.m:Int)≤1000000):
 Fn Tryz.prog 59 #[.pointer (some ⟨G.g,0,none⟩)] H (Bt gI 3 G.gs H (aT (dK.vec L.pF L.mF T.pt) n)):=by
 obtain⟨Ab,cb,kA,_⟩:=h.self.bv;refine aU (args:=[_]) Tryz.func59 rfl rfl Tryz.ntmps59 rfl rfl fun w0=> ?_;refine ag [0] rfl ?_;refine ae ?_;refine vr 1 ?_;refine ab [0] ?_;refine ae ?_;refine vr 2 ?_;refine bJ af rfl rfl rfl ?_;refine aZ af rfl rfl rfl (h.Bp) ?_;refine ar rfl rfl (Bu h.ne (by omega)) ?_;rintro v1 H1 ⟨aI,z,xs,rfl,jM,gT⟩;have fi:=jM.tab h;refine vr 1 ?_;refine ab [0,3] ?_;refine al ?_;refine ae ?_;refine vr 2 ?_;refine bJ af rfl rfl rfl ?_;refine aZ af rfl rfl rfl (show cell H1 _=some (.slice Ab T.m cb)from by rw[←kA];exact fi.cell 8 _ rfl) ?_;refine vr 2 ?_;refine ab [0,3,14,15,16] ?_;refine aD ?_;refine jT (fun(k:Nat)(xs:List Value)=>T.m-k) (fun(k:Nat)(xs:List Value)=>put (put (put (put (put (emp) 0 (.val (.pointer (some ⟨G.g,0,none⟩)))) 3 (.val (.slice (some ⟨z,0,none⟩) L.w L.w))) 14 (.val (.slice Ab T.m cb))) 15 (.val (.int .i64 (T.m:Int)))) 16 (.val (.int .i64 (k:Int)))) (fun(k:Nat)(xs:List Value) H'=>eD G.gs H H' z xs (L.w*3) 90∧bI (bo (rem H' (z::G.gs))) 3 xs (aT (wv T k) L.w)∧k≤T.m) 0 xs (⟨jM,by rw[ks (f:=wv T 0) (g:=fun _=>0) (fun j _=>rfl)];exact gT _,Nat.zero_le _⟩) au ?_;rintro k xs H2 ⟨eh,j5,jf⟩;have jY:=eh.tab h;have cj:=j5.len;rw[cS]at cj
 refine ae ?_;refine vr 1 ?_;refine ab [0,3,14,15,16,17] ?_;refine al ?_;refine az rfl (fun hb=> ?_) (fun hb=> ?_)
 ·
  have kz:k<T.m:=by simpa using hb
  obtain⟨RE,DW,ic⟩:=jY.rows;obtain⟨pk,pg,lY⟩:=ic k kz;have D8:=hW.lt k kz;rw[h.n]at D8;obtain⟨A3,c3,D9,LR⟩:=jY.bv;rw[kA]at D9
  obtain⟨rfl,-,rfl⟩:Ab=A3∧T.m=T.m∧cb=c3:=by simpa using D9
  have fh:=jY.cell 6 _ rfl;obtain⟨xw,n1,d1,b1,DP,dO,DQ⟩:=lY.rd (fp (show L.w<L.w+1 by omega));refine aw ?_;refine ag [0,3,14,15,16] rfl ?_;refine al ?_;refine aD ?_;refine ae ?_;refine vr 1 ?_;refine a6 af rfl rfl rfl rfl rfl (LR) (by rw[Int.toNat_natCast];exact uc kz) (by omega) (by omega) fun _=> ?_;refine vr 2 ?_;refine ab [0,3,4,5,14,15,16] ?_;refine eT .gO [0,1,2,3,4,5,6,7,8,9,10,11,12,13,14,15,16] follows (by kernel_rfl) ?_;refine vr 4 ?_;refine bJ af rfl rfl rfl ?_;refine aZ af rfl rfl rfl (fh) ?_;refine vr 1 ?_;refine a6 af rfl rfl rfl rfl rfl (DW) (by rw[Int.toNat_natCast];exact pg) (by omega) (by omega) fun _=> ?_;refine vr 2 ?_;refine bJ af rfl rfl rfl ?_;refine aZ af rfl rfl rfl (by have:=jY.cell 0 _ rfl;rwa [kQ]at this) ?_;refine cI (vs:=[.int .i64 n1,.int .i64 d1,.pointer b1]) af rfl rfl rfl rfl DP rfl (by decide) (by rw[Int.toNat_natCast];exact DQ) (by omega) (by omega) fun _=> ?_;obtain⟨ti,aj,ak⟩:=bV;refine eB (.inr rfl) af rfl rfl rfl (by omega) (by omega) (eh.aB) rfl (by show 0+L.w*3≤xs.length;omega) aj ak (fun _=>rfl) rfl rfl rfl fun _=> ?_;refine aA ?_;refine ag [0,3,14,15,16] rfl ?_;refine aE rfl ?_;refine aN rfl rfl ⟨by omega,by omega⟩ ?_
  refine vr 1 ?_;refine aA ?_;exact⟨k+1,aF xs (T.B k*3) [.int .i64 n1,.int .i64 d1,.pointer b1],by omega,au,eh.set (by rw[Int.toNat_natCast];exact mJ),by rw[cK _ (List.mem_cons_self ..),ks (g:=fE (wv T k) (T.B k) (T.A k T.n)) (fun j _=>abk hW kz j),h.n];exact qk j5 D8 dO,by omega⟩
 ·
  have hb:T.m≤k:=by simpa using hb
  obtain rfl:k=T.m:=by omega
  have kW:=eh.done;rw[ks (g:=T.pt) (fun j hj=>abl (by rw[h.n];exact hj))]at j5;refine bB ?_;refine ag [0,3] rfl ?_;refine ae ?_;refine vr 2 ?_;refine ar rfl rfl (RI (h.kept kW.1) hL (v:= .slice (some ⟨z,0,none⟩) L.w L.w) (f:=T.pt) ⟨some ⟨z,0,none⟩,L.w,xs,by rw[cS],by rw[cS];exact Nat.le_refl _,eh.rd,j5.mono fun vs a=>fD _ _ vs a kW.2⟩ hz hN hw hn) ?_;rintro v9 H9 ⟨kB,gJ,nF⟩;refine vr 1 ?_;refine ab [2] ?_;refine aq ⟨.inr rfl,_,.tmp rfl (.nil),?_⟩;exact⟨kW.1.trans kB,eh.hle.trans gJ,nF⟩
theorem abn{H:Heap}{G:TG}{L:TL}{T:ao}{n m N s:Nat}(h:dC H G L T)(hW:T.WF)(hL:L.Ok n m)(hs:s<L.w)(ql:∀i,i<T.m→T.B i≠s)(cP:∀i,i<T.m→aJ (T.A i s)≤N)(hz:∀j,j<L.w→aJ (T.dir s j)≤N)(hN:(N:Int)≤274877906944)(hw:(L.w:Int)≤1000000)(hn:(n:Int)≤1000000)(hm:(T.m:Int)≤1000000):
 Fn Tryz.prog 60 #[.pointer (some ⟨G.g,0,none⟩),.int .i64 (s:Int)] H (Bt gI 3 G.gs H (aT (dK.vec L.pF L.mF (T.dir s)) n)):=by
 obtain⟨Ab,cb,kA,_⟩:=h.self.bv;refine aU (args:=[_,_]) Tryz.func60 rfl rfl Tryz.ntmps60 rfl rfl fun w0=> ?_;refine ag [0,1] rfl ?_;refine ae ?_;refine vr 1 ?_;refine ab [0,1] ?_;refine ae ?_;refine vr 2 ?_;refine bJ af rfl rfl rfl ?_;refine aZ af rfl rfl rfl (h.Bp) ?_;refine ar rfl rfl (Bu h.ne (by omega)) ?_;rintro v1 H1 ⟨aI,z,xs,rfl,jM,gT⟩;have abo:=(gT H).len;rw[cS]at abo;refine vr 1 ?_;refine ab [0,1,5] ?_;refine ae ?_;refine vr 2 ?_;refine ar rfl rfl (oy) ?_;rintro v3 H3 ⟨e3,rfl⟩;rw[e3];obtain⟨ti,aj,ak⟩:=bV;refine eB (.inl rfl) af rfl rfl rfl (by omega) (by omega) (jM.aB) rfl (by show 0+L.w*3≤xs.length;omega) aj ak (fun _=>rfl) rfl rfl rfl fun _=> ?_;refine ab [0,1,5] ?_;have wy:eD G.gs H (ins H1 z {(⟨xs,L.w*3,90,true⟩:aQ)with xs:=aF xs (0+((s:Int)).toNat*3) [.int .i64 1,.int .i64 1,.pointer none]}) z (aF xs (s*3) [.int .i64 1,.int .i64 1,.pointer none]) (L.w*3) 90:=jM.set (by rw[Int.toNat_natCast];exact mJ);have fi:=wy.tab h;refine al ?_;refine ae ?_;refine vr 2 ?_;refine bJ af rfl rfl rfl ?_;refine aZ af rfl rfl rfl (show cell _ _=some (.slice Ab T.m cb)from by rw[←kA];exact fi.cell 8 _ rfl) ?_;refine vr 2 ?_;refine ab [0,1,5,20,21,22] ?_
 refine aD ?_;refine jT (fun(k:Nat)(xs:List Value)=>T.m-k) (fun(k:Nat)(xs:List Value)=>put (put (put (put (put (put (emp) 0 (.val (.pointer (some ⟨G.g,0,none⟩)))) 1 (.val (.int .i64 (s:Int)))) 5 (.val (.slice (some ⟨z,0,none⟩) L.w L.w))) 20 (.val (.slice Ab T.m cb))) 21 (.val (.int .i64 (T.m:Int)))) 22 (.val (.int .i64 (k:Int)))) (fun(k:Nat)(xs:List Value) H'=>eD G.gs H H' z xs (L.w*3) 90∧bI (bo (rem H' (z::G.gs))) 3 xs (aT (yG T s k) L.w)∧k≤T.m) 0 (aF xs (s*3) [.int .i64 1,.int .i64 1,.pointer none]) (⟨wy,by rw[ks (g:=fE (fun _=>0) s 1) (fun j _=>by unfold yG fE;rw[vW];split <;> grind)];exact qk (gT _) hs (ow _ (n:=1) (by decide) (by decide)),Nat.zero_le _⟩) au ?_;rintro k xs H2 ⟨eh,j5,jf⟩;have jY:=eh.tab h;have cj:=j5.len;rw[cS]at cj;refine ae ?_;refine vr 1 ?_;refine ab [0,1,5,20,21,22,23] ?_;refine al ?_;refine az rfl (fun hb=> ?_) (fun hb=> ?_)
 ·
  have kz:k<T.m:=by simpa using hb
  obtain⟨RE,DW,ic⟩:=jY.rows;obtain⟨pk,pg,lY⟩:=ic k kz;have D8:=hW.lt k kz;rw[h.n]at D8;obtain⟨A3,c3,D9,LR⟩:=jY.bv;rw[kA]at D9
  obtain⟨rfl,-,rfl⟩:Ab=A3∧T.m=T.m∧cb=c3:=by simpa using D9
  have fh:=jY.cell 6 _ rfl;obtain⟨xw,n1,d1,b1,DP,dO,DQ⟩:=lY.rd (fp (show s<L.w+1 by omega));have HM:=cP k kz;refine aw ?_;refine ag [0,1,5,20,21,22] rfl ?_;refine al ?_;refine aD ?_;refine ae ?_;refine vr 1 ?_;refine a6 af rfl rfl rfl rfl rfl (LR) (by rw[Int.toNat_natCast];exact uc kz) (by omega) (by omega) fun _=> ?_;refine vr 2 ?_;refine ab [0,1,5,6,7,20,21,22] ?_;refine aE rfl ?_;refine vr 4 ?_;refine bJ af rfl rfl rfl ?_;refine aZ af rfl rfl rfl (fh) ?_;refine vr 1 ?_;refine a6 af rfl rfl rfl rfl rfl (DW) (by rw[Int.toNat_natCast];exact pg) (by omega) (by omega) fun _=> ?_;refine vr 1 ?_;refine cI (vs:=[.int .i64 n1,.int .i64 d1,.pointer b1]) af rfl rfl rfl rfl DP rfl (by decide) (by rw[Int.toNat_natCast];exact DQ) (by omega) (by omega) fun _=> ?_;refine ar rfl rfl (Fn.iy (eh.ne h.ne) (AO dO (by omega))) ?_;rintro v4 H4 ⟨fg,bE,n4,d4,b4,rfl,bR⟩;have nE:=eh.kept fg;obtain⟨ti,aj,ak⟩:=bV;refine eB (.inl rfl) af rfl rfl rfl (by omega) (by omega) (nE.aB) rfl (by show 0+L.w*3≤xs.length;omega) aj ak (fun _=>rfl) rfl rfl rfl fun _=> ?_;refine aA ?_;refine ag [0,1,5,20,21,22] rfl ?_;refine aE rfl ?_;refine aN rfl rfl ⟨by omega,by omega⟩ ?_;refine vr 1 ?_
  refine aA ?_;exact⟨k+1,aF xs (T.B k*3) [.int .i64 n4,.int .i64 d4,.pointer b4],by omega,au,nE.set (by rw[Int.toNat_natCast];exact mJ),by rw[cK _ (List.mem_cons_self ..),ks (g:=fE (yG T s k) (T.B k) (-(T.A k s))) (fun j _=>abm hW ql kz j)];exact qk (j5.mono fun vs a=>fD _ _ vs a fg.le) D8 bR,by omega⟩
 ·
  have hb:T.m≤k:=by simpa using hb
  obtain rfl:k=T.m:=by omega
  have kW:=eh.done;rw[ks (f:=yG T s T.m) (g:=T.dir s) (fun j hj=>rfl)]at j5;refine bB ?_;refine ag [0,5] rfl ?_;refine ae ?_;refine vr 2 ?_;refine ar rfl rfl (RI (h.kept kW.1) hL (v:= .slice (some ⟨z,0,none⟩) L.w L.w) (f:=T.dir s) ⟨some ⟨z,0,none⟩,L.w,xs,by rw[cS],by rw[cS];exact Nat.le_refl _,eh.rd,j5.mono fun vs a=>fD _ _ vs a kW.2⟩ hz hN hw hn) ?_;rintro v9 H9 ⟨kB,gJ,nF⟩;refine vr 1 ?_;refine ab [4] ?_;refine aq ⟨.inr rfl,_,.tmp rfl (.nil),?_⟩;exact⟨kW.1.trans kB,eh.hle.trans gJ,nF⟩
theorem RM{H:Heap}{G:TG}{L:TL}{T:ao}{n m N:Nat}{v:Value}{f:Nat→Rat}(h:dC H G L T)(hc:ie H G L T)(hL:L.Ok n m)(hv:aC bo 3 (rem H G.gs) v (aT f L.w))(hf:∀j,j<L.w→aJ (f j)≤N)(sM:∀j,j<L.w→aJ (T.c j)≤N)(hN:(N:Int)≤274877906944)(hw:(L.w:Int)≤1000000)(hm:(m:Int)≤1000000):
 Fn Tryz.prog 54 #[.pointer (some ⟨G.g,0,none⟩),v] H (Bt gI 3 G.gs H (aT (fun i=>L.sF i*(f (L.uF i)-T.c (L.uF i))) m)):=by
 obtain⟨Av,cv,xv,rfl,j6,rN⟩:=hv.num
 rw[cS]
 have wq:=h.self
 obtain⟨Au,cu,xu,Ea,LS,hxu⟩:=wq.jy.one
 obtain⟨As,cs,xs5,o0,pW,vC⟩:=wq.js.num
 rw[hL.LN]at Ea
 rw[hL.LO]at o0
 obtain⟨l,hl⟩:∃l,l=(fun i=>L.sF i*(f (L.uF i)-T.c (L.uF i))):=⟨_,rfl⟩
 have Br:∀i,i<m→aJ (l i)≤2*N+2:=fun i hi=>by
  have h1:=hf _ (hL.uw i hi)
  have h2:=sM _ (hL.uw i hi)
  have h3:=hL.s1 i hi
  have h4:=qb (f (L.uF i)) (T.c (L.uF i))
  have h5:=nx (L.sF i) (f (L.uF i)-T.c (L.uF i))
  rw[hl];show aJ (L.sF i*(f (L.uF i)-T.c (L.uF i)))≤_
  omega
 have bE:cell H ((⟨G.g,0,none⟩:Addr).add 4)=some (.slice Au m cu):=by rw[←Ea];exact h.cell rfl
 obtain⟨gc,cc,DL,uh,yD⟩:=id hc
 have qm:gc∈G.gs:=TG.wk (by rw[DL];exact List.mem_singleton.2 rfl);refine aU (args:=[_,_]) Tryz.func54 rfl rfl Tryz.ntmps54 rfl rfl fun w0=> ?_;refine ag [0,1] rfl ?_;refine ae ?_;refine vr 1 ?_;refine ab [0,1] ?_;refine ae ?_;refine vr 2 ?_;refine bJ af rfl rfl rfl ?_;refine aZ af rfl rfl rfl (bE) ?_;refine vr 1 ?_;refine jS Tryz.underlying85 dT rfl rfl rfl (by omega) (by omega) (by omega) (by omega) ?_;intro z ug;rw[show ((m:Int)).toNat=m from by omega];have jM:eD G.gs H _ z (de [.int .i64 0,.int .i64 0,.pointer none] (m*3)) (m*3) 90:=eD.new h.ne ug
 have gT:bI (jr bo (rem (ins H z ⟨de [.int .i64 0,.int .i64 0,.pointer none] (m*3),m*3,90,true⟩) (z::G.gs))) 3 (de [.int .i64 0,.int .i64 0,.pointer none] (m*3)) (fill (aT l m) 0):=by have:=DF (P:=bo) (H:=rem (ins H z ⟨de [.int .i64 0,.int .i64 0,.pointer none] (m*3),m*3,90,true⟩) (z::G.gs)) (zs:=[.int .i64 0,.int .i64 0,.pointer none]) (sz:=3) (by rfl) (aT l m);rwa [cS]at this
 have fi:=jM.tab h;refine vr 1 ?_;refine ab [0,1,5] ?_;refine al ?_;refine ae ?_;refine vr 2 ?_;refine bJ af rfl rfl rfl ?_;refine aZ af rfl rfl rfl (show cell _ _=some (.slice Au m cu)from by rw[←Ea];exact fi.cell 4 _ rfl) ?_;refine vr 2 ?_;refine ab [0,1,5,17,18,19] ?_;refine aD ?_;refine jT (fun(k:Nat)(xs:List Value)=>m-k) (fun(k:Nat)(xs:List Value)=>put (put (put (put (put (put (emp) 0 (.val (.pointer (some ⟨G.g,0,none⟩)))) 1 (.val (.slice Av L.w cv))) 5 (.val (.slice (some ⟨z,0,none⟩) m m))) 17 (.val (.slice Au m cu))) 18 (.val (.int .i64 (m:Int)))) 19 (.val (.int .i64 (k:Int)))) (fun(k:Nat)(xs:List Value) H'=>eD G.gs H H' z xs (m*3) 90∧bI (jr bo (rem H' (z::G.gs))) 3 xs (fill (aT l m) k)∧k≤m) 0 _ (⟨jM,gT,Nat.zero_le _⟩) au ?_;rintro k xs H2 ⟨eh,j5,jf⟩;have l7:=Bh (l:=aT l m) (k:=k) (by rw[cS];exact jf);rw[cS]at l7;have cj:=j5.len;rw[l7]at cj;have jY:=eh.tab h;have lQ:=eh.hle;refine ae ?_;refine vr 1 ?_;refine ab [0,1,5,17,18,19,20] ?_;refine al ?_;refine az rfl (fun hb=> ?_) (fun hb=> ?_)
 ·
  have fK:k<m:=by simpa using hb
  obtain⟨uu,huu,abp⟩:=hxu k _ (hL.u fK)
  cases abp
  have oC:=hL.uw k fK;obtain⟨n1,d1,b1,dO,ee⟩:=rN _ _ (fp oC);obtain⟨n2,d2,b2,iv,fm⟩:=vC k _ (hL.s fK);obtain⟨xc,n3,d3,b3,wm,iM,ic⟩:=(yD.le eh.le (eh.same gc qm)).rd (fp (show L.uF k<L.w+1 by omega));have jG:=hf _ oC;have vu:=sM _ oC;have kj:=hL.s1 k fK;have Bv:=(j6.le eh.le).le (bG _ _);have abq:=(pW.le eh.le).le (bG _ _);have abr:=LS.le lQ
  have cA:cell H2 ((⟨G.g,0,none⟩:Addr).add 5)=some (.slice As m cs):=by rw[←o0];exact jY.cell 5 _ rfl
  have gw:cell H2 ((⟨G.g,0,none⟩:Addr).add 7)=some (.slice (some ⟨gc,0,none⟩) (L.w+1) cc):=by rw[←uh];exact jY.cell 7 _ rfl
  refine aw ?_;refine ag [0,1,5,17,18,19] rfl ?_;refine al ?_;refine aD ?_;refine ae ?_;refine vr 1 ?_;refine a6 af rfl rfl rfl rfl rfl (abr) (by rw[Int.toNat_natCast];exact huu) (by omega) (by omega) fun _=> ?_;refine vr 2 ?_;refine ab [0,1,5,6,7,17,18,19] ?_;refine eT .gO [0,1,2,3,4,5,6,7,8,9,10,11,12,13,14,15,16,17,18,19,20,21,22,23] follows (by kernel_rfl) ?_;refine vr 4 ?_;refine bJ af rfl rfl rfl ?_;refine aZ af rfl rfl rfl (cA) ?_;refine vr 1 ?_;refine cI (vs:=[.int .i64 n2,.int .i64 d2,.pointer b2]) af rfl rfl rfl rfl abq rfl (by decide) (by rw[Int.toNat_natCast];exact fm) (by omega) (by omega) fun _=> ?_;refine vr 2 ?_;refine cI (vs:=[.int .i64 n1,.int .i64 d1,.pointer b1]) af rfl rfl rfl rfl Bv rfl (by decide) (by rw[Int.toNat_natCast];exact ee) (by omega) (by omega) fun _=> ?_;refine vr 2 ?_;refine bJ af rfl rfl rfl ?_;refine aZ af rfl rfl rfl (gw) ?_;refine vr 1 ?_;refine cI (vs:=[.int .i64 n3,.int .i64 d3,.pointer b3]) af rfl rfl rfl rfl wm rfl (by decide) (by rw[Int.toNat_natCast];exact ic) (by omega) (by omega) fun _=> ?_;refine aH rfl rfl (Fn.iy (eh.ne h.ne) (tZ (N:=N) (dO.le eh.le) iM jG vu (by omega))) (fun _ _ h=>by first | exact h.le | exact h.1) ?_
  rintro v4 H4 ⟨fg,af8,n4,d4,b4,rfl,bR⟩;have nE:=eh.kept fg;have oE:=qb (f (L.uF k)) (T.c (L.uF k));refine aH rfl rfl (Fn.iy (nE.ne h.ne) (tY (N:=2*N+2) (iv.le nE.le) bR (by omega) (by omega) (by omega))) (fun _ _ h=>by first | exact h.le | exact h.1) ?_;rintro v5 H5 ⟨ku,af9,n5,d5,b5,rfl,ja⟩;have nG:=nE.kept ku;obtain⟨ti,aj,ak⟩:=bV;refine eB (.inr rfl) af rfl rfl rfl (by omega) (by omega) (nG.aB) rfl (by show 0+m*3≤xs.length;omega) aj ak (fun _=>rfl) rfl rfl rfl fun _=> ?_;refine aA ?_;refine ag [0,1,5,17,18,19] rfl ?_;refine aE rfl ?_;refine aN rfl rfl ⟨by omega,by omega⟩ ?_;refine vr 1 ?_;refine aA ?_;exact⟨k+1,aF xs (k*3) [.int .i64 n5,.int .i64 d5,.pointer b5],by omega,au,nG.set mJ,by rw[cK _ (List.mem_cons_self ..),←Bi (a:=L.sF k*(f (L.uF k)-T.c (L.uF k))) (by rw[fp fK,hl])];exact LQ (j5.mono fun vs a=>jr.up fD _ _ vs a (fg.le.trans ku.le)) (by rw[l7];exact fK) ja,by omega⟩
 ·
  have hb:m≤k:=by simpa using hb
  obtain rfl:k=m:=by omega
  have kW:=eh.done;refine bB ?_;refine ag [5] rfl ?_;refine ae ?_;refine vr 1 ?_
  refine ar rfl rfl (Fn.HZ (kW.1.ne h.ne) (Q5 (l:=aT l k) ⟨some ⟨z,0,none⟩,k,xs,by rw[cS],by rw[cS];exact Nat.le_refl _,eh.rd,(RH j5).mono fun vs a=>fD _ _ vs a kW.2⟩ (fun q hq=>by
  obtain⟨j,hj,rfl⟩:=List.mem_map.1 hq;have:=Br j (List.mem_range.1 hj)
  omega) (by rw[cS];omega))) ?_
  rintro v9 H9 ⟨kB,gJ,nF⟩;refine vr 1 ?_;refine ab [4] ?_;refine aq ⟨.inr rfl,_,.tmp rfl (.nil),?_⟩;exact⟨kW.1.trans kB,eh.hle.trans gJ,by rw[←hl];exact nF⟩
end Go.ay
namespace Go.ay
open Go.Proofs Num Lp
def jz(T:ao)(f:Nat→Rat)(k j:Nat):Rat:=(if j=T.n then 0 else f j)-aV k (fun i=>f (T.B i)*T.A i j)
theorem abt(T:ao)(f:Nat→Rat)(k j:Nat):jz T f (k+1) j=jz T f k j-f (T.B k)*T.A k j:=by
 unfold jz;rw[fJ];grind
theorem Eb(f:Nat→Rat)(n:Nat):aT f (n+1)=aT f n ++ [f n]:=by
 unfold aT;rw[List.range_succ,List.map_append];rfl
theorem abu(f:Nat→Rat)(n:Nat):aT f n ++ [0]=aT (fun j=>if j=n then 0 else f j) (n+1):=by
 rw[Eb,ks (f:=fun j=>if j=n then 0 else f j) (g:=f) (fun j hj=>by show (if j=n then 0 else f j)=f j;rw[if_neg (by omega)]),if_pos rfl]
theorem abv{α:Type}{P:List Value→α→Prop}{sz:Nat}{xs:List Value}{l:List α}(h:bI P sz xs l)(hp:0<sz∧∀vs a,P vs a→∀u,u∈vs→u.oneCell'=true):∀u,u∈xs→u.oneCell'=true:=fun u hu=>by
 obtain⟨i,hi⟩:=List.getElem?_of_mem hu
 have bH:=(List.getElem?_eq_some_iff.1 hi).1
 rw[h.len]at bH
 have he:i/sz<l.length:=Nat.div_lt_of_lt_mul (by rw[Nat.mul_comm];exact bH)
 have hq:=h.at_ (i/sz) _ (List.getElem?_eq_getElem he)
 refine hp.2 _ _ hq u ?_
 have:(fA xs (i/sz) sz)[i%sz]? = some u:=by
  unfold fA
  rw[List.getElem?_take,if_pos (Nat.mod_lt _ hp.1),List.getElem?_drop,Nat.div_add_mod'];exact hi
 exact List.mem_of_getElem? this
theorem abw{K:Heap}:0<3∧∀vs a,bo K vs a→∀u,u∈vs→u.oneCell'=true:=⟨by decide,fun vs a h u hu=>by
 obtain⟨n,d,b,rfl⟩:=h.cells
 simp only[List.mem_cons,List.not_mem_nil,or_false]at hu
 rcases hu with rfl | rfl | rfl <;> rfl⟩
def TG.ey(G:TG)(v:Value)(gc:Nat):TG:={G with cv:=v,cb:=[gc]}
theorem dC.abx{H:Heap}{G:TG}{L:TL}{T:ao}(h:dC H G L T){H3:Heap}{v:Value}{gc:Nat}{e:aQ}(qm:H gc=none)(hle:Heap.le (rem H G.gs) (rem (ins H3 G.g e) (G.ey v gc).gs))(hs:∀q,q∈G.gs→H3 q=H q)(h3:H3 gc≠none)(he:e=⟨(G.ey v gc).cells L.w L.u T.m,9,97,true⟩):
  dC (ins H3 G.g e) (G.ey v gc) L T:=by
 have bD:∀q,q∈G.gs→q≠gc:=fun q hq e=>h.ne q hq (by rw[e];exact qm)
 have wi:G.g≠gc:=bD _ G.qi
 have DB:∀q,q∈G.gs→q≠G.g→ins H3 G.g e q=H q:=fun q hq hn=>by rw[bP _ _ hn];exact hs q hq
 refine⟨h.n,h.uw,by show ins H3 G.g e G.g=_;rw[bT,he],?_,h.lD,?_,fun i p hp=> ?_,?_,h.plus.le lG hle,h.minus.le sI hle,h.jy.le lG hle,h.js.le fD hle,fun q hq=> ?_⟩
 ·have jF:=h.nd
  unfold TG.gs at jF⊢
  show (G.g::([gc]++(G.bb++G.rg.map (·.1)))).Nodup
  rw[List.nodup_cons,List.nodup_append]at jF
  have gD:∀q,q∈G.bb++G.rg.map (·.1)→q∈G.gs:=fun q hq=>List.mem_cons_of_mem _ (List.mem_append_right _ hq)
  rw[List.nodup_cons,List.nodup_append]
  refine⟨fun hm=> ?_,(by simp),jF.2.2.1,fun a ha b hb=> ?_⟩
  ·rcases List.mem_append.1 hm with hm | hm
   ·exact wi (List.mem_singleton.1 hm)
   ·exact jF.1 (List.mem_append_right _ hm)
  ·rw[List.mem_singleton]at ha
   rw[ha];exact fun e=>bD b (gD b hb) e.symm
 ·obtain⟨xs,h1,h2⟩:=h.rows
  exact⟨xs,h1.le hle,h2⟩
 ·have CX:G.rg[i]? = some p:=hp
  exact(h.row i p CX).le hle (DB _ (TG.oB CX) (fun e=>TG.yA h.nd (.inr (.inr ⟨i,p,CX,rfl⟩)) e.symm))
 ·rcases h.basis with h1 | ⟨gb,cb,sz,h1,h2,h4⟩
  ·exact .inl h1
  ·have hm:gb∈G.bb:=by rw[h1];exact List.mem_singleton.2 rfl
   exact .inr ⟨gb,cb,sz,h1,h2,by rw[DB _ (TG.ue hm) (fun e=>TG.yA h.nd (.inr (.inl hm)) e.symm)];exact h4⟩
 ·have:q=gc:=List.mem_singleton.1 hq
  rw[this,bP _ _ (Ne.symm wi)];exact h3
theorem TG.aby{G:TG}{v:Value}{gc q:Nat}(h:q∈(G.ey v gc).gs):q=gc∨q∈G.gs:=by
 unfold TG.gs at h
 rcases List.mem_cons.1 h with h | h
 ·exact .inr (by rw[h];exact G.qi)
 ·rcases List.mem_append.1 h with h | h
  ·exact .inl (List.mem_singleton.1 h)
  ·exact .inr (List.mem_cons_of_mem _ (List.mem_append_right _ h))
theorem abz{H H3:Heap}{G:TG}{v:Value}{gc:Nat}{e:aQ}(qm:H gc=none)(hle:Heap.le (rem H G.gs) (rem H3 G.gs)):Heap.le (rem H G.gs) (rem (ins H3 G.g e) (G.ey v gc).gs):=fun q en hq=>by
 have hm:¬q∈G.gs:=fun hm=>by rw[rem_in hm]at hq;cases hq
 have LU:q≠gc:=fun e=>by rw[bY hm,e,qm]at hq;cases hq
 obtain⟨e',h1,h2⟩:=hle q en hq
 refine⟨e',?_,h2⟩
 rw[bY (fun h=>by rcases TG.aby h with h | h;exact LU h;exact hm h),bP _ _ (fun e=>hm (by rw[e];exact G.qi))]
 rwa [bY hm]at h1
theorem RN{H:Heap}{G:TG}{L:TL}{T:ao}{N:Nat}{v:Value}{f:Nat→Rat}(h:dC H G L T)(hv:aC bo 3 (rem H G.gs) v (aT f L.w))(hB:∀i,i<T.m→T.B i<L.w)(hN:(N:Int)≤549755813888)(hw:(L.w:Int)≤1000000)(hm:(T.m:Int)≤1000000)
 (hf:∀j,j<L.w→aJ (f j)≤N) (hA:∀i,i<T.m→∀j,j≤L.w→aJ (T.A i j)≤N) (hp:∀k,k≤T.m→∀j,j≤L.w→aJ (jz T f k j)≤N):
 Fn Tryz.prog 49 #[.pointer (some ⟨G.g,0,none⟩),v] H (fun _ H'=>∃cv gc,H gc=none∧dC H' (G.ey cv gc) L {T with c:=jz T f T.m}∧ie H' (G.ey cv gc) L {T with c:=jz T f T.m}∧Heap.le (rem H G.gs) (rem H' (G.ey cv gc).gs)):=by
 obtain⟨Av,cv0,xv,rfl,abA,j6,wz⟩:=hv
 rw[cS]at abA
 rw[cS]
 have RO:=wz.len
 rw[cS]at RO
 have LK:=h.n;refine aU (args:=[_,_]) Tryz.func49 rfl rfl Tryz.ntmps49 rfl rfl fun w0=> ?_;refine ag [0,1] rfl ?_;refine ae ?_;refine vr 2 ?_;refine eW Tryz.underlying85 dT rfl rfl (oY _ 90 3) (j6.le (bG _ _)) (RO) (abv wz abw) (by omega) (by omega) ?_;intro v1 H1 oF;rw[List.nil_append,Nat.zero_add]at oF;obtain⟨di,fw⟩:=oF.rem (gs:=G.gs) h.ne (fun q _ e=>by cases e);have aga:=di.own;refine ar rfl rfl (oy) ?_;rintro v2 H2 ⟨e2,rfl⟩;rw[e2];refine dM Tryz.underlying85 dT rfl rfl rfl rfl rfl rfl rfl ?_;intro gz Ec;have LV:¬gz∈G.gs:=fun hm=>h.ne gz hm (by rw[←fw gz hm];exact Ec)
 have jI:∀q,q∈G.gs→ins H1 gz (whole (cT [N3 0 1 none]) 90) q=H q:=fun q hq=>by rw[bP _ _ (fun e=>LV (by rw[←e];exact hq))];exact fw q hq
 refine eW Tryz.underlying85 dT rfl rfl (oF.own.ins _ Ec) (fu _ _ _ _ _ _) (rfl) (by decide) (by omega) (by omega) ?_;intro v3 H3 LW
 obtain⟨iL,jN⟩:=LW.rem (gs:=G.gs) (fun q hq=>by rw[jI q hq];exact h.ne q hq) (fun q hq e=>by
  rcases oF.at_ with h9 | ⟨g9,h9,iV⟩
  ·rw[h9]at e;cases e
  ·rw[h9]at e;cases e;exact h.ne _ hq iV)
 obtain⟨gc,cc,rfl,RP,Ie⟩:∃gc cc,v3 = .slice (some ⟨gc,0,none⟩) (L.w+1) cc∧H3 gc=some ⟨xv++cT [N3 0 1 none],cc*3,90,true⟩∧H gc=none:=by
  rcases LW.own.2 with h9 | ⟨g9,c9,h9,iV,_⟩
  ·omega
  ·
   refine⟨g9,c9,h9,iV,?_⟩
   rcases LW.at_ with iq | ⟨g11,iq,xQ⟩
   ·
    rw[h9]at iq
    rcases oF.at_ with mK | ⟨g13,mK,qn⟩
    ·rw[mK]at iq;cases iq
    ·rw[mK]at iq;cases iq;exact qn
   ·
    rw[h9]at iq
    cases iq
    have qo:=(yb xQ).2
    cases hh:H g9 with
    | none=>rfl
    | some en=>(obtain⟨e',Bw,_⟩:=oF.le g9 en hh;rw[qo]at Bw;cases Bw)
 have RQ:∀q,q∈G.gs→H3 q=H q:=fun q hq=>(jN q hq).trans (jI q hq);have ib:Heap.le (rem H G.gs) (rem H3 G.gs):=(di.le.trans (by rw[tR _ LV];exact Heap.bC _ (by rw[bY LV];exact Ec))).trans iL.le
 have Ed:H3 G.g=some ⟨G.cells L.w L.u T.m,9,97,true⟩:=by rw[RQ _ G.qi];exact h.st
 refine vr 1 ?_;refine bJ af rfl rfl rfl ?_;obtain⟨ti,aj,ak⟩:=C3;refine o8 (g:=G.g) (o:=7) (.inl rfl) rfl Ed rfl (by show 7+1≤9;omega) aj ak rfl rfl rfl rfl ?_;have gS:=abz (v:= .slice (some ⟨gc,0,none⟩) (L.w+1) cc) (e:={(⟨G.cells L.w L.u T.m,9,97,true⟩:aQ)with xs:=aF (G.cells L.w L.u T.m) 7 [.slice (some ⟨gc,0,none⟩) (L.w+1) cc]}) Ie ib;have h4:=h.abx (v:= .slice (some ⟨gc,0,none⟩) (L.w+1) cc) Ie gS RQ (by rw[RP];simp) rfl;have wi:gc≠G.g:=fun e=>h.ne _ G.qi (by rw[←e];exact Ie)
 have RR:ins H3 G.g {(⟨G.cells L.w L.u T.m,9,97,true⟩:aQ)with xs:=aF (G.cells L.w L.u T.m) 7 [.slice (some ⟨gc,0,none⟩) (L.w+1) cc]} gc=some ⟨xv++cT [N3 0 1 none],cc*3,90,true⟩:=by rw[bP _ _ wi];exact RP
 generalize ins H3 G.g {(⟨G.cells L.w L.u T.m,9,97,true⟩:aQ)with xs:=aF (G.cells L.w L.u T.m) 7 [.slice (some ⟨gc,0,none⟩) (L.w+1) cc]}=H4 at gS h4 RR
 refine ab [0,1] ?_
 have RS:bI (bo (rem H4 (G.ey (.slice (some ⟨gc,0,none⟩) (L.w+1) cc) gc).gs)) 3 (xv++cT [N3 0 1 none]) (aT (jz T f 0) (L.w+1)):=by
  rw[ks (f:=jz T f 0) (g:=fun j=>if j=L.w then 0 else f j) (fun j _=>by unfold jz;rw[vW,LK];grind),←abu];exact(wz.mono fun vs a=>fD _ _ vs a gS).append (jn (ow _ (n:=0) (by decide) (by decide)) rfl)
 obtain⟨G',sN⟩:∃G',G'=G.ey (.slice (some ⟨gc,0,none⟩) (L.w+1) cc) gc:=⟨_,rfl⟩;rw[←sN]at gS h4 RS
 have yH:G'.g=G.g:=by rw[sN];rfl
 have yg:ie H4 G' L {T with c:=jz T f 0}:=⟨gc,cc,by rw[sN];rfl,by rw[sN];rfl,_,_,RR,RS⟩;have h4':dC H4 G' L {T with c:=jz T f 0}:=h4.congr rfl rfl (fun _ _ _ _=>rfl) (fun _ _=>rfl);obtain⟨Ab,cb,kA,_⟩:=h4.self.bv
 have jt:cell H4 ((⟨G.g,0,none⟩:Addr).add 8)=some (.slice Ab T.m cb):=by rw[←kA,←yH];exact h4.cell rfl
 refine ae ?_;refine vr 2 ?_;refine bJ af rfl rfl rfl ?_;refine aZ af rfl rfl rfl (jt) ?_;refine vr 2 ?_;refine ab [0,1,17,18,19] ?_;refine aD ?_;refine ft (fun(k:Nat)=>T.m-k) (fun(k:Nat)=>put (put (put (put (put (emp) 0 (.val (.pointer (some ⟨G.g,0,none⟩)))) 1 (.val (.slice Av L.w cv0))) 17 (.val (.slice Ab T.m cb))) 18 (.val (.int .i64 (T.m:Int)))) 19 (.val (.int .i64 (k:Int)))) (fun(k:Nat) H'=>dC H' G' L {T with c:=jz T f k}∧ie H' G' L {T with c:=jz T f k}∧Heap.le (rem H G.gs) (rem H' G'.gs)∧k≤T.m) 0 (⟨h4',yg,gS,Nat.zero_le _⟩) au ?_;rintro k H5 ⟨h5,DX,gZ,ku⟩;obtain⟨A2,c2,DV,Dn⟩:=h5.self.bv;rw[kA]at DV
 obtain⟨rfl,-,rfl⟩:Ab=A2∧T.m=T.m∧cb=c2:=by simpa using DV
 refine ae ?_;refine vr 1 ?_;refine ab [0,1,17,18,19,20] ?_;refine al ?_;refine az rfl (fun hb=> ?_) (fun hb=> ?_)
 ·
  have kz:k<T.m:=by simpa using hb
  have RT:=hB k kz;obtain⟨pk,pg⟩:=h5.get (i:=k) kz;obtain⟨vs0,_,jJ,iJ⟩:=wz.get (fp RT);obtain⟨n1,d1,b1,rfl⟩:=jJ.cells;obtain⟨gc',cc',agb,agc,agd⟩:=id DX
  have gw:cell H5 ((⟨G.g,0,none⟩:Addr).add 7)=some G'.cv:=by rw[←yH];exact h5.cell rfl
  refine aw ?_;refine ag [0,1,17,18,19] rfl ?_;refine al ?_;refine aD ?_;refine ae ?_;refine vr 1 ?_;refine a6 af rfl rfl rfl rfl rfl (Dn) (by rw[Int.toNat_natCast];exact uc (B:=T.B) kz) (by omega) (by omega) fun _=> ?_;refine vr 2 ?_;refine ab [0,1,4,5,17,18,19] ?_;refine eT .rL [0,1,2,3,4,5,6,7,8,9,10] follows (by kernel_rfl) ?_;refine vr 3 ?_;refine bJ af rfl rfl rfl ?_;refine aZ af rfl rfl rfl (gw) ?_;refine vr 3 ?_;refine cI (vs:=[.int .i64 n1,.int .i64 d1,.pointer b1]) af rfl rfl rfl rfl ((j6.le gZ).le (bG _ _)) rfl (by decide) (by rw[Int.toNat_natCast];exact iJ) (by omega) (by omega) fun _=> ?_;refine Qo rfl rfl (by rw[←yH];exact Rn (N:=N) h5 DX pg (jJ.le gZ) hN hw (hf _ RT) (fun j hj=>hp k (by omega) j hj) (fun j hj=>hA k kz j hj)) ?_;rintro v6 H6 ⟨h6,LI,ma⟩;refine aA ?_;refine ag [0,1,17,18,19] rfl ?_;refine aE rfl ?_;refine aN rfl rfl ⟨by omega,by omega⟩ ?_;refine vr 1 ?_;refine aA ?_;exact⟨k+1,by omega,au,h6.congr rfl rfl (fun _ _ _ _=>rfl) (fun _ _=>rfl),LI.congr (fun j _=>abt T f k j),gZ.trans ma,by omega⟩
 ·
  have hb:T.m≤k:=by simpa using hb
  obtain rfl:k=T.m:=by omega
  refine bB ?_;refine⟨.inl rfl,_,.nil,?_⟩;exact⟨_,gc,Ie,by rw[←sN];exact h5,by rw[←sN];exact DX,by rw[←sN];exact gZ⟩
end Go.ay
namespace Go.ay
open Go
section
variable {P:Program} {n:Nat} {tb:Tb} {all:Array Oper} {s:St} {H:Heap} {md:Mode} {K:St→Heap→Prop} {r:List Oper} {dst:Option Nat} {ty:TypeId} {pos:String} {after:Array Edge} {gd:Option (Nat×Bool)} {kc:Addr→Option Value}
theorem Ig{op:Op}(v:Value)(hm:pI op=false)(hc:(Mode.e7 kc).qz H)(hg:cE all s gd=some true)(nb:ll s dst=true)
  (h:∀a w,fQ n s a→(∀ad u,kc ad=some u→w.cell? ad=some u)→(execOp a.eval ⟨dst,op,ty,pos,after,gd⟩).run P w = .ok (.value v) w) (k:aO P n all (.e7 kc) r (aY s dst (.val v)) H K):aO P n all (.e7 kc) (⟨dst,op,ty,pos,after,gd⟩::r) s H K:=
 .lq v rfl hm nb hc (fun a w ha hd=> .inl ⟨jd ha (ki (o:=⟨dst,op,ty,pos,after,gd⟩) hg),h a w ha hd⟩) k
theorem Ee{x:Operand}{v:Value}(hc:(Mode.e7 kc).qz H)(hx:ev s x=some v)(hk:aO P n all (.e7 kc) r (aY s dst (.val v)) H K)(hg:cE all s gd=some true:=by rfl)(nb:ll s dst=true:=by rfl):aO P n all (.e7 kc) (⟨dst,.move x,ty,pos,after,gd⟩::r) s H K:=
 Ig v rfl hc hg nb (fun a w ha _=>by simp[execOp,bQ ha hx]) hk
theorem sO{x:Operand}{ad:Addr}(hc:(Mode.e7 kc).qz H)(hx:ev s x=some (.pointer (some ad)))(hk:aO P n all (.e7 kc) r (aY s dst (.val (.pointer (some ad)))) H K)(hg:cE all s gd=some true:=by rfl)(nb:ll s dst=true:=by rfl):aO P n all (.e7 kc) (⟨dst,.nilCheck x,ty,pos,after,gd⟩::r) s H K:=
 Ig _ rfl hc hg nb (fun a w ha _=>by simp[execOp,bQ ha hx]) hk
theorem sP{t:TypeId}{x:Operand}{f:Nat}{ad:Addr}{m o z:Nat}{ps:List (Nat×Nat)}(hc:(Mode.e7 kc).qz H)(dZ:kN P tb)(ht:tb[t]? = some (.st m ps))(hf:ps[f]? = some (o,z))(hx:ev s x=some (.pointer (some ad)))
  (hk:aO P n all (.e7 kc) r (aY s dst (.val (.pointer (some (ad.add o))))) H K) (hg:cE all s gd=some true:=by rfl) (nb:ll s dst=true:=by rfl):aO P n all (.e7 kc) (⟨dst,.fieldAddr t x f,ty,pos,after,gd⟩::r) s H K:=
 Ig _ rfl hc hg nb (fun a w ha _=>by
  obtain⟨fs,ii,hu,h2,h3,_,h4⟩:=dZ t _ ht
  obtain⟨fd,jj,h5,h6,h7,h9,iV⟩:=h4 f _ hf
  have h8:jj.size≠0:=by rw[h9];exact iV
  simp only at h6
  simp[execOp,bQ ha hx,Instr.fieldAt,run_underlying hu,h5,Instr.sureAddr,Gw h7 h8,h6]) hk
theorem nH{t:TypeId}{x:Operand}{ad:Addr}{ti:Ti}{v:Value}(hc:(Mode.e7 kc).qz H)(dZ:kN P tb)(ht:tb[t]? = some ti)(h1:xH ti=true)(hx:ev s x=some (.pointer (some ad)))(hv:kc ad=some v)
  (hk:aO P n all (.e7 kc) r (aY s dst (.val v)) H K) (hg:cE all s gd=some true:=by rfl) (nb:ll s dst=true:=by rfl):aO P n all (.e7 kc) (⟨dst,.load t x,ty,pos,after,gd⟩::r) s H K:=
 Ig _ rfl hc hg nb (fun a w ha hd=>by simp[execOp,bQ ha hx,Instr.loadAt,Instr.sureAddr,J7 (dZ t _ ht) h1 (hd ad v hv)]) hk
theorem Ef{f:Operand}{ly:FuncId}{cap args:List Value}{xs:List Operand}{ts:Array TypeId}{bt:Value→Heap→Prop}(hf:ev s f=some (.func (.func ly) #[] cap.toArray))(hx:pO s xs=some args)
  (h:Fn P ly (args++cap).toArray H bt) (hm:∀v H',bt v H'→(Mode.e7 kc).qz H') (hk:∀v H',bt v H'→aO P n all (.e7 kc) r (aY s dst (.val v)) H' K) (hg:cE all s gd=some true:=by rfl) (nb:ll s dst=true:=by rfl):aO P n all (.e7 kc) (⟨dst,.call ⟨.value f,xs.toArray,ts⟩,ty,pos,after,gd⟩::r) s H K:=
 .lK bt rfl (.inl CR) nb (CQ (cap:=cap) hf hx hg h) (.inr hm) fun v H' hp _=>hk v H' hp
theorem Eg{t e bytes:Nat}{x:Operand}{z v:Value}(ht:P.underlying t=some (.slice e))(he:fT P e 1 z bytes)(hx:ev s x=some v)(hv:v.cells = #[v])
  (hk:∀g,H g=none→aO P n all (.e7 kc) r (aY s dst (.val (.slice (some ⟨g,0,none⟩) 1 1))) (ins H g (whole [v] e)) K) (hg:cE all s gd=some true:=by rfl) (nb:ll s dst=true:=by rfl):
  aO P n all (.e7 kc) (⟨dst,.buildSlice t 1 #[(0,x)],ty,pos,after,gd⟩::r) s H K:=
 .m5 (fun g=> .slice (some ⟨g,0,none⟩) 1 1) [v] e rfl rfl nb (fun a w ha=>by
  refine⟨jd ha (ki (o:=⟨dst,.buildSlice t 1 #[(0,x)],ty,pos,after,gd⟩) hg),?_⟩
  obtain⟨i,hi,hz,cP,_,CS,_⟩:=he
  have kM:v.cells.size=1:=by rw[hv];rfl
  have xO:Instr.fill (fun k=>some (k*i.size,i.size)) (madeCells z.cells (1*i.size)) [(0,v)]=some #[v]:=by
   have h1:=Pq (sz:=1) [v] 0 [] (madeCells z.cells 1).toList (fun u hu=>by rw[List.mem_singleton]at hu;rw[hu];exact kM) rfl (by simp[size_madeCells])
   simp only[List.nil_append,Array.toArray_toList,List.length_singleton]at h1
   have e1:cT [v] = [v]:=by simp[cT,hv]
   rw[e1]at h1
   rw[cP]
   simpa [List.range']using h1
  have:=Pr (P:=P) (w:=w) (t:=t) (e:=e) (len:=1) (i:=i) (z:=z) (parts:= #[(0,v)]) (cells:= #[v]) ht hi hz (by rw[cP];decide) (by rw[cP];decide) xO
  simp only[execOp,List.map_toArray,List.map_cons,List.map_nil,bQ ha hx,Sem.run_bind,this,Result.andThen_ok,Sem.run_pure]) fun g hg _=>hk g hg
theorem Eh{t e sz bytes:Nat}{x y:Operand}{z v:Value}{m k c:Nat}{A:Option Addr}{xs news:List Value}(ht:P.underlying t=some (.slice e))(he:fT P e sz z bytes)(hx:ev s x=some v)(hy:ev s y=some (.slice A k c))(ho:bU H v e sz m xs)
  (hr:Rd H A news) (hl:news.length=k*sz) (h1:∀u∈news,u.oneCell'=true) (hb:(m+k)*bytes≤140737488355328) (nW:m+k≤9223372036854775807) (hc:(Mode.e7 kc).qz H)
  (hk:∀v' H',App H v e sz (m+k) (xs++news) v' H'→aO P n all (.e7 kc) r (aY s dst (.val v')) H' K) (hg:cE all s gd=some true:=by rfl) (nb:ll s dst=true:=by rfl):aO P n all (.e7 kc) (⟨dst,.call ⟨.builtin .append,#[x,y],#[t,t]⟩,ty,pos,after,gd⟩::r) s H K:=
 .lK (fun v' H'=>App H v e sz (m+k) (xs++news) v' H') rfl (.inl (by simp[kd,Gh])) nb (fun a w ha hd=>by
  refine⟨jd ha (ki (o:=⟨dst,.call ⟨.builtin .append,#[x,y],#[t,t]⟩,ty,pos,after,gd⟩) hg),?_⟩
  obtain⟨v',w',H',h2,h3,h4,h5⟩:=Po (P:=P) (c:=c) hd ht he ho hr hl h1 hb nW ty
  have hex:(execOp a.eval ⟨dst,.call ⟨.builtin .append,#[x,y],#[t,t]⟩,ty,pos,after,gd⟩).run P w = .ok (.value v') w':=by
   simp[execOp,resolve,invoke,builtin,bQ ha hx,bQ ha hy,h2]
  unfold kI
  rw[hex]
  exact⟨H',h3,h4,h5⟩) (.inr fun v' H' ha ad u hu=>cZ ha.le (hc ad u hu)) fun v' H' ha _=>hk v' H' ha
theorem abB{t:TypeId}{x y:Operand}{g o sz:Nat}{ent:aQ}{v:Value}{vs:List Value}{ii:TypeInfo}(hx:ev s x=some (.pointer (some ⟨g,o,none⟩)))(hg:H g=some ent)(cR:ent.own=true)(gD:o+sz≤ent.xs.length)
  (xP:P.info? t=some ii) (cP:ii.size=sz) (hy:ev s y=some v) (hv:v.cells=vs.toArray) (iu:vs.length=sz) (h1:vs.all xN=true) (iW:cE all s gd=some true):
  EV P n all ⟨none,.store t x y,ty,pos,after,gd⟩ s H (fun _ H'=>H'=ins H g {ent with xs:=aF ent.xs o vs}):=fun a w ha hd=>by
 refine⟨jd ha (ki (o:=⟨none,.store t x y,ty,pos,after,gd⟩) iW),?_⟩
 obtain⟨ob,h2,cur,fz,rfl,h3,h4,h5⟩:=hd g ent hg
 have nh:=h5 cR
 subst nh
 have CV:cur=cur.toList.toArray:=by simp
 have hlen:ent.xs.length≤cur.toList.length:=by
  rcases Nat.eq_zero_or_pos ent.xs.length with h | h
  ·omega
  ·have hx:=h4 (ent.xs.length-1) _ (List.getElem?_eq_getElem (by omega))
   have:=(Array.getElem?_eq_some_iff.1 hx).1
   simp;omega
 rw[CV]at h2
 obtain⟨w',h6,h7,h8,h9,iV,iq,xQ⟩:=Gy (P:=P) vs cur.toList w o 0 h2 (fun u hu=>List.all_eq_true.1 h1 u hu) (by omega)
 have hex:(execOp a.eval ⟨none,.store t x y,ty,pos,after,gd⟩).run P w = .ok .skip w':=by
  simp[execOp,bQ ha hx,bQ ha hy,Instr.storeAt,Instr.sureAddr,storeVar,sizeOf,typeInfo,xP,cP,hv,iu,h6]
 unfold kI
 rw[hex]
 refine⟨_,rfl,zV (o:= .cells (aF cur.toList (o+0) vs).toArray ent.elem (0,0)) hd h7 h8 h9 (by omega) (fun q _ hq=>iq q hq) xQ ⟨_,(0,0),rfl,?_,?_,fun _=>rfl⟩ (.inl ⟨_,hg,cR,cR,rfl,rfl⟩)⟩
 ·simp[CP,h3]
 ·intro q u hq
  have:=Qp vs ent.xs cur.toList o (fun i w hw=>by have:=h4 i w hw;simpa using this) (by omega) q u hq
  simpa using this
theorem Ei{t:TypeId}{x y:Operand}{g o sz:Nat}{ent:aQ}{v:Value}{vs:List Value}{ii:TypeInfo}(hx:ev s x=some (.pointer (some ⟨g,o,none⟩)))(hg:H g=some ent)(cR:ent.own=true)(gD:o+sz≤ent.xs.length)
  (xP:P.info? t=some ii) (cP:ii.size=sz) (hy:ev s y=some v) (hv:v.cells=vs.toArray) (iu:vs.length=sz) (h1:vs.all xN=true)
  (hk:aO P n all (.e7 kc) r s (ins H g {ent with xs:=aF ent.xs o vs}) K) (iW:cE all s gd=some true:=by rfl):aO P n all (.e7 kc) (⟨none,.store t x y,ty,pos,after,gd⟩::r) s H K:=
 .lK _ rfl (.inr rfl) rfl (abB hx hg cR gD xP cP hy hv iu h1 iW) (.inl rfl) fun _ H' hH _=>by rw[hH];exact hk
theorem abC{f:FuncId}{xs:List Operand}{cap:List Value}(hx:pO s xs=some cap)(hk:aO P n all md r (aY s dst (.val (.func (.func f) #[] cap.toArray))) H K)(hg:cE all s gd=some true:=by rfl)(nb:md.nb s dst=true:=by rfl):
  aO P n all md (⟨dst,.makeFunc (.func f) #[] xs.toArray,ty,pos,after,gd⟩::r) s H K:=
 im _ rfl hg nb (fun a w ha _=>by simp[execOp,J8 ha xs cap hx,Instr.makeFunc]) hk
end
end Go.ay
namespace Go.ay
open Go.Proofs Num Lp
def jO(L:TL)(a:Nat→Rat)(sg:Rat):Nat→Nat→Rat
 | 0=>fun _=>0
 | k+1=>if 0≤L.mZ k then fE (fE (jO L a sg k) (L.pF k) (a k*sg)) (L.mZ k).toNat (-(a k*sg))else fE (jO L a sg k) (L.pF k) (a k*sg)
def q7(f:Nat→Rat)(rel slack:Int)(sg:Rat):Nat→Rat:=if rel=1 then fE f slack.toNat sg else if rel=3 then fE f slack.toNat (-sg)else f
def Ih(L:TL)(n:Nat)(a:Nat→Rat)(b:Rat)(rel slack:Int)(unit:Nat)(sg:Rat):Nat→Rat:=
 fE (fE (q7 (jO L a sg n) rel slack sg) unit 1) L.w (b*sg)
def eZ(N:Nat)(H:Heap)(vs:List Value)(r:List Rat×Int×Rat):Prop:=
 ∃c f u w,vs = [c,.int .i64 r.2.1,.bool f,u,w]∧aC (aS N) 3 H c r.1∧bN H (.agg #[.bool f,u,w]) r.2.2 N
theorem gK(N:Nat):Up (eZ N):=fun H H' vs r hl ⟨c,f,u,w,h1,h2,h3⟩=>⟨c,f,u,w,h1,h2.le (a8 N) hl,h3.le hl⟩
theorem eZ.cells{N:Nat}{H:Heap}{vs:List Value}{r:List Rat×Int×Rat}(h:eZ N H vs r):∃A c k f A1 m1 c1 A2 m2 c2,vs = [.slice A k c,.int .i64 r.2.1,.bool f,.slice A1 m1 c1,.slice A2 m2 c2]∧k=r.1.length:=by
 obtain⟨c,f,u,w,h1,⟨A,cc,xs,rfl,_⟩,h3⟩:=h
 obtain⟨f',u',w',l1,l2,e,⟨A1,c1,rfl,_,_⟩,⟨A2,c2,rfl,_,_⟩,_⟩:=h3
 have:=Bj (vs:=[.bool f,u,w]) e
 simp only[List.cons.injEq,Value.bool.injEq,and_true]at this
 obtain⟨_,rfl,rfl⟩:=this
 exact⟨A,cc,_,f,A1,_,c1,A2,_,c2,h1,rfl⟩
theorem Bx{H:Heap}{gv g w:Nat}{ts:List Value}(hv:cell H ⟨gv,0,none⟩=some (.pointer (some ⟨g,0,none⟩)))(hg:H g=some ⟨.int .i64 (w:Int)::ts,9,97,true⟩)(bD:gv≠g)(hw:(w:Int)≤1000000):
 Fn Tryz.prog 122 #[.pointer (some ⟨gv,0,none⟩)] H (fun v H'=>v = .int .i64 (w:Int)∧H'=ins H g ⟨.int .i64 ((w+1:Nat):Int)::ts,9,97,true⟩):=by
 have pb:cell H ((⟨g,0,none⟩:Addr))=some (.int .i64 (w:Int)):=by simp[cell,hg]
 have zX:∀e,cell (ins H g e) ⟨gv,0,none⟩=some (.pointer (some ⟨g,0,none⟩)):=fun e=>by
  simp only[cell,bP _ _ bD]at hv⊢;exact hv
 refine aU (args:=[_]) Tryz.func122 rfl rfl Tryz.ntmps122 rfl rfl fun w0=> ?_;refine ag [0] rfl ?_;refine ae ?_;refine vr 1 ?_;refine ab [0] ?_;refine ae ?_;refine aZ af rfl rfl rfl (hv) ?_;refine vr 1 ?_;refine bJ af rfl rfl rfl ?_;refine aZ af rfl rfl rfl (pb) ?_;refine aN rfl rfl ⟨by omega,by omega⟩ ?_;refine vr 1 ?_;refine bJ af rfl rfl rfl ?_;obtain⟨ti,aj,ak⟩:=pR;refine o8 (g:=g) (o:=0) (.inl rfl) rfl hg rfl (by show 0+1≤(Value.int .i64 (w:Int)::ts).length;simp) aj ak rfl rfl rfl rfl ?_;rw[show ({(⟨.int .i64 (w:Int)::ts,9,97,true⟩:aQ)with xs:=aF (.int .i64 (w:Int)::ts) 0 [.int .i64 ((w:Int)+1)]}:aQ)=⟨.int .i64 ((w+1:Nat):Int)::ts,9,97,true⟩from rfl];refine ab [0] ?_;refine ae ?_;refine aZ af rfl rfl rfl (zX _) ?_;refine vr 1 ?_;refine bJ af rfl rfl rfl ?_;refine aZ af rfl rfl rfl (show cell (ins H g ⟨.int .i64 ((w+1:Nat):Int)::ts,9,97,true⟩) ⟨g,0,none⟩=some (.int .i64 ((w+1:Nat):Int))from by simp[cell,ins]) ?_;refine eo rfl rfl ⟨by omega,by omega⟩ ?_;refine vr 1 ?_;refine ab [1] ?_;refine aq ⟨.inr rfl,_,.tmp rfl (.nil),?_⟩;refine⟨?_,rfl⟩
 show Value.int .i64 (((w+1:Nat):Int)-1)=_
 rw[show (((w+1:Nat):Int)-1)=(w:Int) by omega]
end Go.ay
