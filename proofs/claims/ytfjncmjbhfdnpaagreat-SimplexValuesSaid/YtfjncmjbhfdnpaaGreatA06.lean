/- Part 6 of the proof: Tab3, TDat3, Tab4, Tab5, Tab6, Tab7, Eng13, Tab8. -/
import Derived.Test.YtfjncmjbhfdnpaaGreatA05
set_option linter.unusedVariables false
namespace Go.ar
open Go.Proofs Num Lp
theorem qe{q:Rat}:0≤fo q↔0≤q:=by
 unfold fo
 by_cases h:q<0
 ·rw[if_pos h];constructor <;> intro h' <;> first | omega | grind
 ·rw[if_neg h]
  by_cases e:q=0
  ·rw[if_pos e];constructor <;> intro h' <;> first | omega | grind
  ·rw[if_neg e];constructor <;> intro h' <;> first | omega | grind
theorem ur{q:Rat}:fo q≤0↔q≤0:=by
 unfold fo
 by_cases h:q<0
 ·rw[if_pos h];constructor <;> intro h' <;> first | omega | grind
 ·rw[if_neg h]
  by_cases e:q=0
  ·rw[if_pos e];constructor <;> intro h' <;> first | omega | grind
  ·rw[if_neg e];constructor <;> intro h' <;> first | omega | grind
theorem CI{q:Rat}:fo q<0↔q<0:=by
 have:=qe (q:=q)
 constructor
 ·intro h;false_or_by_contra;have:=this.2 (by grind);omega
 ·intro h;false_or_by_contra;have:=this.1 (by omega);grind
theorem Ai{q:Rat}:0<fo q↔0<q:=by
 have:=ur (q:=q)
 constructor
 ·intro h;false_or_by_contra;have:=this.2 (by grind);omega
 ·intro h;false_or_by_contra;have:=this.1 (by omega);grind
theorem lA{q:Rat}:fo q=0↔q=0:=by
 constructor
 ·exact q6
 ·intro h;rw[h];rfl
theorem Vg(q:Rat):aG q⁻¹≤aG q:=by
 by_cases h:q=0
 ·rw[h,Rat.inv_zero];exact Nat.le_refl _
 ·have hn:0<q.num.natAbs:=by
   have:q.num≠0:=fun e=>h (Rat.num_eq_zero.1 e)
   omega
  have e:=TN (g:=decide (q.num<0)) (m:=q.num.natAbs) (e:=q.den) hn
  rw[vA]at e
  have h1:=lR (Nat.div_le_self q.den (Nat.gcd q.den q.num.natAbs))
  have h2:=lR (Nat.div_le_self q.num.natAbs (Nat.gcd q.den q.num.natAbs))
  rw[e]
  unfold aG
  rw[Cl hn,zF hn];omega
theorem CJ(p q:Rat):aG (p/q)≤aG p+aG q:=by
 rw[Rat.div_def]
 have h1:=pc p q⁻¹
 have h2:=Vg q
 omega
def Found(T:ao)(s k:Nat)(row:Int)(K:Heap)(ls:List Value):Prop:=
 (row = -1∧∀i,i<k→T.A i s≤0)∨∃r:Nat,row=(r:Int)∧r<k∧0<T.A r s∧bE K ls (T.A r T.n/T.A r s)∧
  ∀i,i<k→0<T.A i s→T.A r T.n/T.A r s<T.A i T.n/T.A i s∨(T.A r T.n/T.A r s=T.A i T.n/T.A i s∧T.B r≤T.B i)
section
variable {T:ao} {s k:Nat} {row:Int} {K K':Heap} {ls:List Value}
theorem Found.le(h:Found T s k row K ls)(hl:Heap.le K K'):Found T s k row K' ls:=by
 rcases h with h | ⟨r,h1,h2,h3,h4,h5⟩
 ·exact .inl h
 ·exact .inr ⟨r,h1,h2,h3,h4.le hl,h5⟩
theorem Found.skip(h:Found T s k row K ls)(hk:T.A k s≤0):Found T s (k+1) row K ls:=by
 rcases h with ⟨h1,h2⟩ | ⟨r,h1,h2,h3,h4,h5⟩
 ·exact .inl ⟨h1,fun i hi=>by
   by_cases e:i=k
   ·rw[e];exact hk
   ·exact h2 i (by omega)⟩
 ·exact .inr ⟨r,h1,by omega,h3,h4,fun i hi hp=>by
   by_cases e:i=k
   ·rw[e]at hp;grind
   ·exact h5 i (by omega) hp⟩
theorem Found.new{Vh:List Value}(h:Found T s k row K ls)(hk:0<T.A k s)(hn:bE K Vh (T.A k T.n/T.A k s))(hl:row = -1∨∀r:Nat,row=(r:Int)→T.A k T.n/T.A k s<T.A r T.n/T.A r s):Found T s (k+1) (k:Int) K Vh:=by
 refine .inr ⟨k,rfl,by omega,hk,hn,fun i hi hp=> ?_⟩
 by_cases e:i=k
 ·rw[e];exact .inr ⟨rfl,Nat.le_refl _⟩
 ·rcases h with ⟨h1,h2⟩ | ⟨r,h1,h2,h3,h4,h5⟩
  ·have:=h2 i (by omega);grind
  ·have h6:T.A k T.n/T.A k s<T.A r T.n/T.A r s:=by
    rcases hl with hl | hl
    ·omega
    ·exact hl r h1
   rcases h5 i (by omega) hp with h7 | h7
   ·left;grind
   ·left;rw[←h7.1];exact h6
theorem Found.tie(h:Found T s k row K ls)(hk:0<T.A k s){r:Nat}(hr:row=(r:Int))(he:T.A k T.n/T.A k s=T.A r T.n/T.A r s)(hB:T.B k<T.B r):Found T s (k+1) (k:Int) K ls:=by
 rcases h with ⟨h1,h2⟩ | ⟨r',h1,h2,h3,h4,h5⟩
 ·omega
 ·obtain rfl:r'=r:=by omega
  refine .inr ⟨k,rfl,by omega,hk,by rw[he];exact h4,fun i hi hp=> ?_⟩
  by_cases e:i=k
  ·rw[e];exact .inr ⟨rfl,Nat.le_refl _⟩
  ·rcases h5 i (by omega) hp with h7 | h7
   ·left;rw[he];exact h7
   ·right;exact⟨by rw[he];exact h7.1,by omega⟩
theorem Found.stay(h:Found T s k row K ls)(hk:0<T.A k s){r:Nat}(hr:row=(r:Int))(he:T.A r T.n/T.A r s<T.A k T.n/T.A k s∨(T.A r T.n/T.A r s=T.A k T.n/T.A k s∧T.B r≤T.B k)):Found T s (k+1) row K ls:=by
 rcases h with ⟨h1,h2⟩ | ⟨r',h1,h2,h3,h4,h5⟩
 ·omega
 ·obtain rfl:r'=r:=by omega
  refine .inr ⟨r',h1,by omega,h3,h4,fun i hi hp=> ?_⟩
  by_cases e:i=k
  ·rw[e];exact he
  ·exact h5 i (by omega) hp
end
theorem Vi{H:Heap}{G:TG}{L:TL}{T0:ao}{N:Nat}{I:ao→Prop}(h:dz H G L T0)(hc:iE H G L T0)(hI:I T0)(Vj:∀S r s,I S→S.ot L.u r s→I (S.pivot r s))(hinv:∀S,I S→S.WF∧S.jO∧Sz N S∧S.m=T0.m∧S.n=T0.n)
 (hN:(N:Int)≤137438953472) (hw:(L.w:Int)≤1000000) (hm:(T0.m:Int)≤1000000):
 Fn Tryz.prog 51 #[.pointer (some ⟨G.g,0,none⟩)] H (fun v H'=>∃T,I T∧dz H' G L T∧iE H' G L T∧Heap.le (rem H G.gs) (rem H' G.gs)∧((v = .int .i64 (-1)∧∀j,j<L.u→0≤T.c j)∨∃s:Nat,v = .int .i64 (s:Int)∧s<L.u∧T.c s<0∧∀i,i<T.m→T.A i s≤0)):=by
 have l4:=h.uw;refine aZ (args:=[_]) Tryz.func51 rfl rfl Tryz.ntmps51 rfl rfl fun w0=> ?_;refine ag [0] rfl ?_;refine ab ?_;refine vr 1 ?_;refine aa [0] ?_;refine aC ?_;refine Iu (γ:=ao) (ao.Step L.u) (fun(T:ao)=>put (emp) 0 (.val (.pointer (some ⟨G.g,0,none⟩)))) (fun(T:ao) H'=>dz H' G L T∧iE H' G L T∧I T∧Heap.le (rem H G.gs) (rem H' G.gs)) (T0) ((by obtain⟨h1,h2,_⟩:=hinv T0 hI;exact ao.NO h1 h2 (by rw[h.n];exact l4))) an (⟨h,hc,hI,.refl _⟩) ?_;rintro T H1 ⟨h1,iS,Fc,fa⟩;obtain⟨NM,NN,cO,Vk,Oi⟩:=hinv T Fc;have hTw:T.n=L.w:=h1.n
 have aeu:(T.m:Int)≤1000000:=by rw[Vk];exact hm
 refine aC ?_;refine ab ?_;refine vr 1 ?_;refine aa [0,3] ?_;refine kC (fun(k:Nat)=>put (put (emp) 0 (.val (.pointer (some ⟨G.g,0,none⟩)))) 3 (.val (.int .i64 (k:Int)))) (fun(k:Nat) H'=>Kept G.gs H1 H'∧((k=L.u∧∀j,j<L.u→0≤T.c j)∨(k<L.u∧T.c k<0∧∀j,j<k→0≤T.c j))) ?_ ?_
 ·
  refine aC ?_;refine fZ (fun(k:Nat)=>L.u-k) (fun(k:Nat)=>put (put (emp) 0 (.val (.pointer (some ⟨G.g,0,none⟩)))) 3 (.val (.int .i64 (k:Int)))) (fun(k:Nat) H'=>Kept G.gs H1 H'∧k≤L.u∧∀j,j<k→0≤T.c j) 0 (⟨.refl _ _,Nat.zero_le _,fun j hj=>by omega⟩) an ?_;rintro k H2 ⟨fA,JQ,sA⟩;have h2:=h1.kept fA;have lS:=iS.kept fA;refine al ?_
  by_cases bU:k<L.u
  ·
   obtain⟨gc,cc,JO,a6,Ah⟩:=id lS;obtain⟨xc,nc,dc,bc,l0,wX,sU⟩:=Ah.rd (di (show k<L.w+1 by omega))
   have kK:cell H2 ((⟨G.g,0,none⟩:Addr).add 7)=some (.slice (some ⟨gc,0,none⟩) (L.w+1) cc):=by rw[←a6];exact h2.cell rfl
   have JE:=cO.c k (by omega);refine ab ?_;refine vr 3 ?_;refine aS ae rfl rfl rfl ?_;refine aN ae rfl rfl rfl (h2.cell rfl) ?_;refine aA true rfl rfl (iz (by omega)) ?_;refine vr 3 ?_;refine aS ae rfl rfl rfl ?_;refine aN ae rfl rfl rfl (kK) ?_;refine vr 1 ?_;refine bR (vs:=[.int .i64 nc,.int .i64 dc,.pointer bc]) ae rfl rfl rfl rfl l0 rfl (by decide) sU (by omega) (by omega) fun _=> ?_;refine aw rfl rfl (Fn.kX h2.ne (iT wX (by omega))) ?_;rintro v3 H3 ⟨de,dC,rfl⟩;refine vr 2 ?_;refine aa [0,3,25] ?_;refine aB rfl (fun hb=> ?_) (fun hb=> ?_)
   ·
    have hb:0≤T.c k:=qe.1 (by simpa using hb);refine au ?_;refine ag [0,3] rfl ?_;refine aC ?_;refine av rfl ?_;refine vr 1 ?_;refine aD rfl rfl ⟨by omega,by omega⟩ ?_;refine vr 1 ?_;refine aq ?_;exact⟨k+1,by omega,an,fA.trans de,by omega,fun j hj=>by by_cases e:j=k;(rw[e];exact hb);exact sA j (by omega)⟩
   ·
    have hb:T.c k<0:=CI.1 (by simpa using hb);refine aU ?_;exact⟨k,an,fA.trans de,.inr ⟨bU,hb,sA⟩⟩
  ·
   skip
   refine ab ?_;refine vr 3 ?_;refine aS ae rfl rfl rfl ?_;refine aN ae rfl rfl rfl (h2.cell rfl) ?_;refine aA false rfl rfl (fQ (by omega)) ?_;refine vr 11 ?_;refine aa [0,3,25] ?_;refine cU rfl ?_;refine aU ?_;exact⟨k,an,fA,.inl ⟨by omega,fun j hj=>sA j (by omega)⟩⟩
 ·
  rintro k H3 ⟨de,Vl⟩;have h3:=h1.kept de;have sH:=iS.kept de;refine al ?_;refine ab ?_;refine vr 3 ?_;refine aS ae rfl rfl rfl ?_;refine aN ae rfl rfl rfl (h3.cell rfl) ?_;refine vr 1 ?_;refine aa [0,3,33] ?_;refine aB rfl (fun hb=> ?_) (fun hb=> ?_)
  ·
   have hb:k=L.u:=by simp at hb;omega
   have ix:∀j,j<L.u→0≤T.c j:=by
    rcases Vl with h5 | h5
    ·exact h5.2
    ·omega
   refine ab ?_;refine vr 1 ?_;refine aa [2] ?_;refine az ⟨.inr rfl,_,.tmp rfl (.nil),?_⟩;exact⟨T,Fc,h3,sH,fa.trans de.le,.inl ⟨rfl,ix⟩⟩
  ·
   have hb:k≠L.u:=by simp at hb;omega
   obtain⟨bU,fI,sA⟩:k<L.u∧T.c k<0∧∀j,j<k→0≤T.c j:=by
    rcases Vl with h5 | h5
    ·omega
    ·exact h5
   refine au ?_;refine ag [0,3] rfl ?_;refine ab ?_;refine vr 1 ?_;refine aa [0,3,4] ?_;refine ab ?_;refine bt dM rfl ?_;refine aa [0,3,4,5] ?_;refine al ?_;refine ab ?_;refine vr 2 ?_;refine aS ae rfl rfl rfl ?_;refine aN ae rfl rfl rfl (h3.cell rfl) ?_;refine vr 2 ?_;refine aa [0,3,4,5,37,38,39] ?_;refine aC ?_;refine gh (fun(q:Nat)(row:Int)(ls:Int×Int×Option Addr)=>T.m-q) (fun(q:Nat)(row:Int)(ls:Int×Int×Option Addr)=>put (put (put (put (put (put (put (emp) 0 (.val (.pointer (some ⟨G.g,0,none⟩)))) 3 (.val (.int .i64 (k:Int)))) 4 (.val (.int .i64 row))) 5 (.box [.int .i64 ls.1,.int .i64 ls.2.1,.pointer ls.2.2])) 37 (.val (.slice G.Ar T.m G.cr))) 38 (.val (.int .i64 (T.m:Int)))) 39 (.val (.int .i64 (q:Int)))) (fun(q:Nat)(row:Int)(ls:Int×Int×Option Addr) H'=>Kept G.gs H3 H'∧q≤T.m∧Found T k q row (rem H' G.gs) [.int .i64 ls.1,.int .i64 ls.2.1,.pointer ls.2.2]) 0 (-1) (0,0,none) (⟨.refl _ _,Nat.zero_le _,.inl ⟨rfl,fun i hi=>by omega⟩⟩) an ?_;rintro q row ls H4 ⟨fu,B6,Fe⟩;have h4:=h3.kept fu;refine ab ?_;refine vr 1 ?_;refine aa [0,3,4,5,37,38,39,40] ?_;refine al ?_;refine aB rfl (fun hb=> ?_) (fun hb=> ?_)
   ·
    have JR:q<T.m:=by simpa using hb
    obtain⟨pq,mu⟩:=h1.get JR;obtain⟨xs4,Ag,mB⟩:=h4.rows;obtain⟨xk,nk,dk,bk,JM,Fb,JN⟩:=(h4.row q pq mu).rd (di (show k<L.w+1 by omega));obtain⟨xw,nw,dw,bw,Ff,nM,Fg⟩:=(h4.row q pq mu).rd (di (show L.w<L.w+1 by omega));have JE:=cO.A q JR k (by omega);have ki:=cO.A q JR L.w (by omega);refine au ?_;refine ag [0,3,4,5,37,38,39] rfl ?_;refine al ?_;refine aC ?_;refine ab ?_;refine vr 1 ?_;refine aM ae rfl rfl rfl rfl rfl (Ag.le (bG _ _)) (by rw[Int.toNat_natCast];exact mB q pq mu) (by omega) (by omega) fun _=> ?_;refine vr 2 ?_;refine aa [0,3,4,5,6,7,37,38,39] ?_;refine al ?_;refine ab ?_;refine vr 2 ?_;refine bR (vs:=[.int .i64 nk,.int .i64 dk,.pointer bk]) ae rfl rfl rfl rfl JM rfl (by decide) (by rw[Int.toNat_natCast];exact JN) (by omega) (by omega) fun _=> ?_;refine aw rfl rfl (Fn.kX h4.ne (iT Fb (by omega))) ?_;rintro v5 H5 ⟨j7,dy,rfl⟩;have h5:=h4.kept j7;refine vr 1 ?_;refine aa [0,3,4,5,6,7,37,38,39,49] ?_;refine aB rfl (fun hb=> ?_) (fun hb=> ?_)
    ·
     have hb:T.A q k≤0:=ur.1 (by simpa using hb);refine aU ?_;refine ag [0,3,4,5,37,38,39] rfl ?_;refine av rfl ?_;refine aD rfl rfl ⟨by omega,by omega⟩ ?_;refine vr 1 ?_;refine aq ?_;exact⟨q+1,row,ls,by omega,an,fu.trans j7,by omega,(Fe.le j7.le).skip hb⟩
    ·
     have vJ:0<T.A q k:=by
      have:¬fo (T.A q k)≤0:=by simpa using hb
      rw[ur]at this;grind
     refine au ?_;refine ag [0,3,4,5,6,7,37,38,39] rfl ?_;refine bJ .bF [0,1,2,3,4,5,6,7,8,9,10,11,12,13] follows (by kernel_rfl) ?_;refine vr 3 ?_;refine aS ae rfl rfl rfl ?_;refine aN ae rfl rfl rfl (h5.iF) ?_;refine bR (vs:=[.int .i64 nw,.int .i64 dw,.pointer bw]) ae rfl rfl rfl rfl (Ff.le dy) rfl (by decide) (by rw[Int.toNat_natCast];exact Fg) (by omega) (by omega) fun _=> ?_;refine vr 2 ?_;refine bR (vs:=[.int .i64 nk,.int .i64 dk,.pointer bk]) ae rfl rfl rfl rfl (JM.le dy) rfl (by decide) (by rw[Int.toNat_natCast];exact JN) (by omega) (by omega) fun _=> ?_;refine aO rfl rfl (Fn.iU h5.ne (UX (N:=N) (nM.le j7.le) (Fb.le j7.le) ki JE (by omega) (by grind))) (fun _ _ h=>by first | exact h.le | exact h.1) ?_;rintro v6 H6 ⟨qf,jr,nq,dq,bq,rfl,Oj⟩;have h6:=h5.kept qf;have hsq:=CJ (T.A q L.w) (T.A q k);rw[←hTw]at Oj hsq ki;have Vm:=(Fe.le j7.le).le qf.le;refine bt dM rfl ?_;obtain⟨ti,aj,ak⟩:=bV;refine aJ (.inl ⟨rfl,rfl⟩) rfl rfl rfl aj ak rfl rfl rfl ?_;refine aa [0,3,4,5,6,8,37,38,39] ?_;refine aC ?_;refine kC (fun(bz:Bool)=>put (put (put (put (put (put (put (put (put (put (emp) 0 (.val (.pointer (some ⟨G.g,0,none⟩)))) 3 (.val (.int .i64 (k:Int)))) 4 (.val (.int .i64 row))) 5 (.box [.int .i64 ls.1,.int .i64 ls.2.1,.pointer ls.2.2])) 6 (.val (.int .i64 (q:Int)))) 8 (.box [.int .i64 nq,.int .i64 dq,.pointer bq])) 37 (.val (.slice G.Ar T.m G.cr))) 38 (.val (.int .i64 (T.m:Int)))) 39 (.val (.int .i64 (q:Int)))) 62 (.val (.bool bz))) (fun(bz:Bool) H'=>Kept G.gs H6 H'∧(bz=true→row = -1∨∀r:Nat,row=(r:Int)→T.A q T.n/T.A q k<T.A r T.n/T.A r k)∧(bz=false→∃r:Nat,row=(r:Int)∧r<q∧¬T.A q T.n/T.A q k<T.A r T.n/T.A r k)) ?_ ?_
     ·
      refine ab ?_;refine vr 3 ?_;refine aa [0,3,4,5,6,8,37,38,39,62] ?_;refine aB rfl (fun hb=> ?_) (fun hb=> ?_)
      ·
       have iv:row<0:=by simpa using hb
       refine au ?_;exact⟨_,an,.refl _ _,fun _=> .inl (by rcases Fe with hx | hx;exact hx.1;obtain⟨r,hr,_⟩:=hx;omega),fun e=>by rw[hb]at e;cases e⟩
      ·
       have iv:¬row<0:=by simpa using hb
       obtain⟨r1,CL,Vn,aev,CN,_⟩:∃r:Nat,row=(r:Int)∧r<q∧0<T.A r k∧bE (rem H6 G.gs) [.int .i64 ls.1,.int .i64 ls.2.1,.pointer ls.2.2] (T.A r T.n/T.A r k)∧True:=by
        rcases Vm with hx | ⟨r,h1,h2,h3,h4,_⟩
        ·omega
        ·exact⟨r,h1,h2,h3,h4,trivial⟩
       have Ol:=CJ (T.A r1 T.n) (T.A r1 k);have nS:=cO.A r1 (by omega) T.n (by omega);have jn:=cO.A r1 (by omega) k (by omega);refine av rfl ?_;refine vr 2 ?_;refine aw rfl rfl (Fn.iU h6.ne (ug (N:=2*N) Oj CN (by omega) (by omega) (by omega))) ?_;rintro va Ha ⟨ni,ji,na,da,ba,rfl,ya⟩;have hss:=om (T.A q T.n/T.A q k) (T.A r1 T.n/T.A r1 k);refine aw rfl rfl (Fn.kX (ni.ne h6.ne) (iT ya (by omega))) ?_;rintro vb Hb ⟨qg,dU,rfl⟩;refine vr 2 ?_;refine aq ?_;exact⟨_,an,ni.trans qg,fun e=> .inr fun r hr=>(by have:=CI.1 (of_decide_eq_true e);obtain rfl:r=r1:=(by omega);grind),fun e=>⟨r1,CL,Vn,fun bU=>of_decide_eq_false e (CI.2 (by grind))⟩⟩
     ·
      rintro bz H7 ⟨mJ,ij,iv⟩;have h7:=h6.kept mJ;have JS:=((fu.trans j7).trans qf).trans mJ;have Fh:=Vm.le mJ.le;have Om:=Oj.le mJ.le;refine aB rfl (fun hb=> ?_) (fun hb=> ?_)
      ·
       skip
       refine dZ .bF [0,1,2,3] follows (by kernel_rfl) ?_;refine vr 3 ?_;obtain⟨ti,aj,ak⟩:=bV;refine aJ (.inl ⟨rfl,rfl⟩) rfl rfl rfl aj ak rfl rfl rfl ?_;refine aq ?_;refine ag [0,3,4,5,37,38,39] rfl ?_;refine av rfl ?_;refine aD rfl rfl ⟨by omega,by omega⟩ ?_;refine vr 1 ?_;refine aq ?_;exact⟨q+1,(q:Int),(nq,dq,bq),by omega,an,JS,by omega,Fh.new vJ Om (ij hb)⟩
      ·
       obtain⟨r1,CL,Vn,akd⟩:=iv hb
       obtain⟨aev,CN⟩:0<T.A r1 k∧bE (rem H7 G.gs) [.int .i64 ls.1,.int .i64 ls.2.1,.pointer ls.2.2] (T.A r1 T.n/T.A r1 k):=by
        rcases Fh with hx | ⟨r,h1,h2,h3,h4,_⟩
        ·omega
        ·
         obtain rfl:r=r1:=by omega
         exact⟨h3,h4⟩
       have Ol:=CJ (T.A r1 T.n) (T.A r1 k);have nS:=cO.A r1 (by omega) T.n (by omega);have jn:=cO.A r1 (by omega) k (by omega);have hss:=om (T.A q T.n/T.A q k) (T.A r1 T.n/T.A r1 k)
       obtain⟨gb,cb,sz,kU,cY,bD⟩:∃gb cb sz,G.bb = [gb]∧G.bv = .slice (some ⟨gb,0,none⟩) T.m cb∧H7 gb=some ⟨ee T.B T.m,sz,3,true⟩:=by
        rcases h7.basis with h8 | h8
        ·
         have:=h8.1
         omega
        ·exact h8
       have JP:gb∈G.gs:=TG.lZ (by rw[kU];exact List.mem_singleton.2 rfl)
       by_cases heq:T.A q T.n/T.A q k=T.A r1 T.n/T.A r1 k
       ·
        skip
        refine bJ .bF [0,1,2,3,4,5,6,7,8,9,10,11,12,13,14,15,16,17,18,19,20,21,22] follows (by kernel_rfl) ?_;refine vr 2 ?_;refine aO rfl rfl (Fn.iU h7.ne (ug (N:=2*N) Om CN (by omega) (by omega) (by omega))) (fun _ _ h=>by first | exact h.le | exact h.1) ?_;rintro va Ha ⟨ni,ji,na,da,ba,rfl,ya⟩;refine aO rfl rfl (Fn.kX (ni.ne h7.ne) (iT ya (by omega))) (fun _ _ h=>by first | exact h.le | exact h.1) ?_;rintro vb Hb ⟨qg,dU,rfl⟩;have h8:=(h7.kept ni).kept qg
        have kL:cell Hb ((⟨G.g,0,none⟩:Addr).add 8)=some (.slice (some ⟨gb,0,none⟩) T.m cb):=by rw[←cY];exact h8.cell rfl
        have ga:Rd Hb (some ⟨gb,0,none⟩) (ee T.B T.m):=dF (by rw[qg.same gb JP,ni.same gb JP];exact bD);refine aA true rfl rfl (fk (lA.2 (by rw[heq];grind))) ?_;refine vr 3 ?_;refine aS ae rfl rfl rfl ?_;refine aN ae rfl rfl rfl (kL) ?_;refine vr 1 ?_;refine aM ae rfl rfl rfl rfl rfl (ga) (by rw[Int.toNat_natCast];exact gj JR) (by omega) (by omega) fun _=> ?_;refine vr 2 ?_;refine aS ae rfl rfl rfl ?_;refine aN ae rfl rfl rfl (kL) ?_;refine vr 1 ?_;refine aM ae rfl rfl rfl rfl rfl (ga) (by rw[CL,Int.toNat_natCast];exact gj (by omega)) (by omega) (by omega) fun _=> ?_;refine vr 3 ?_;refine aa [0,3,4,5,6,37,38,39,72] ?_;refine aB rfl (fun hb=> ?_) (fun hb=> ?_)
        ·
         have hB:T.B q<T.B r1:=by simp at hb;omega
         refine av rfl ?_;refine vr 2 ?_;refine aq ?_;refine ag [0,3,4,5,37,38,39] rfl ?_;refine av rfl ?_;refine aD rfl rfl ⟨by omega,by omega⟩ ?_;refine vr 1 ?_;refine aq ?_;exact⟨q+1,(q:Int),ls,by omega,an,(JS.trans ni).trans qg,by omega,((Fh.le ni.le).le qg.le).tie vJ CL heq hB⟩
        ·
         have hB:T.B r1≤T.B q:=by simp at hb;omega
         refine au ?_;refine ag [0,3,4,5,37,38,39] rfl ?_;refine av rfl ?_;refine aD rfl rfl ⟨by omega,by omega⟩ ?_;refine vr 1 ?_;refine aq ?_;exact⟨q+1,row,ls,by omega,an,(JS.trans ni).trans qg,by omega,((Fh.le ni.le).le qg.le).stay vJ CL (.inr ⟨heq.symm,hB⟩)⟩
       ·
        skip
        refine bJ .bF [0,1,2,3,4,5,6,7,8,9,10,11,12,13,14,15,16,17,18,19,20,21,22] follows (by kernel_rfl) ?_;refine vr 2 ?_;refine aO rfl rfl (Fn.iU h7.ne (ug (N:=2*N) Om CN (by omega) (by omega) (by omega))) (fun _ _ h=>by first | exact h.le | exact h.1) ?_;rintro va Ha ⟨ni,ji,na,da,ba,rfl,ya⟩;refine aO rfl rfl (Fn.kX (ni.ne h7.ne) (iT ya (by omega))) (fun _ _ h=>by first | exact h.le | exact h.1) ?_;rintro vb Hb ⟨qg,dU,rfl⟩;refine aA false rfl rfl (gI (fun e=>heq (by have:=lA.1 e;grind))) ?_;refine vr 18 ?_;refine aa [0,3,4,5,6,37,38,39,72] ?_;refine cU rfl ?_;refine au ?_;refine ag [0,3,4,5,37,38,39] rfl ?_;refine av rfl ?_;refine aD rfl rfl ⟨by omega,by omega⟩ ?_;refine vr 1 ?_;refine aq ?_;exact⟨q+1,row,ls,by omega,an,(JS.trans ni).trans qg,by omega,((Fh.le ni.le).le qg.le).stay vJ CL (.inl (by grind))⟩
   ·
    have hb:T.m≤q:=by simpa using hb
    obtain rfl:q=T.m:=by omega
    have Vo:=de.trans fu;refine aU ?_;refine ag [0,3,4] rfl ?_;refine al ?_;refine ab ?_;refine vr 2 ?_;refine aa [0,3,4,98] ?_;refine aB rfl (fun hb=> ?_) (fun hb=> ?_)
    ·
     have iv:row<0:=by simpa using hb
     have ix:∀i,i<T.m→T.A i k≤0:=by
      rcases Fe with hx | ⟨r,hr,_⟩
      ·exact hx.2
      ·omega
     refine ab ?_;refine vr 2 ?_;refine aa [2] ?_;refine az ⟨.inr rfl,_,.tmp rfl (.nil),?_⟩;exact⟨T,Fc,h4,sH.kept fu,fa.trans Vo.le,.inr ⟨k,rfl,bU,fI,ix⟩⟩
    ·
     have iv:¬row<0:=by simpa using hb
     obtain⟨rr,oy,kt,fS,ks⟩:∃r:Nat,row=(r:Int)∧r<T.m∧0<T.A r k∧∀i,i<T.m→0<T.A i k→T.A r T.n/T.A r k<T.A i T.n/T.A i k∨(T.A r T.n/T.A r k=T.A i T.n/T.A i k∧T.B r≤T.B i):=by
      rcases Fe with hx | ⟨r,h1,h2,h3,_,h5⟩
      ·omega
      ·exact⟨r,h1,h2,h3,h5⟩
     have ko:T.ot L.u rr k:=⟨bU,fI,sA,kt,fS,ks⟩;obtain⟨_,_,aew,_,_⟩:=hinv _ (Vj _ _ _ Fc ko);refine au ?_;refine ag [0,3,4] rfl ?_;refine av rfl ?_;refine vr 3 ?_;refine aw rfl rfl (by rw[oy];exact Ve (N:=N) h4 (sH.kept fu) kt (by omega) (by grind) cO aew (by omega) hw aeu) ?_;rintro v9 H9 ⟨h9,Aj,Fi⟩;refine aq ?_;exact⟨T.pivot rr k,⟨rr,k,ko,rfl⟩,an,h9,Aj,Vj _ _ _ Fc ko,(fa.trans Vo.le).trans Fi⟩
end Go.ar
namespace Go.ar
open Go.Proofs Num Lp
structure Fj(K H:Heap)(G:TG)(L:TL)(T:ao):Prop where
 kh:Heap.le K H
 cell:∀(k:Nat)(v:Value),(G.cells L.w L.u T.m)[k]? = some v→ar.cell H ((⟨G.g,0,none⟩:Addr).add k)=some v
 rows:∃xs,Rd H G.Ar xs∧∀i,i<T.m→∃p:Nat×Nat,xs[i]? = some (.slice (some ⟨p.1,0,none⟩) (L.w+1) p.2)∧kW K H p.1 (aH (T.A i) (L.w+1))
 basis:T.m=0∨∃gb cb,G.bv = .slice (some ⟨gb,0,none⟩) T.m cb∧Rd H (some ⟨gb,0,none⟩) (ee T.B T.m)
 Vp:T.m=0→∃A c,G.bv = .slice A 0 c
 plus:aR uo 1 H G.pv L.plus
 minus:aR uk 1 H G.mv L.minus
 j8:aR uo 1 H G.uv L.j8
 jQ:aR bE 3 K G.sv L.jQ
theorem dz.w{H0 K H:Heap}{G:TG}{L:TL}{T:ao}(h:dz H0 G L T)(hle:Heap.le (rem H0 G.gs) K)(hk:Heap.le K H)(hs:∀q,q∈G.gs→H q=H0 q):Fj K H G L T where
 kh:=hk
 cell:=fun k v hv=>by
  have:=hs _ G.rb
  simp[ar.cell,iA,this,h.st,hv]
 rows:=by
  obtain⟨xs,h1,h2⟩:=h.rows
  refine⟨xs,h1.le (hle.trans hk),fun i hi=> ?_⟩
  obtain⟨p,hp⟩:=h.get hi
  exact⟨p,h2 i p hp,(h.row i p hp).le hle (hs _ (TG.gm hp))⟩
 basis:=by
  rcases h.basis with h1 | ⟨gb,cb,sz,h1,h2,h3⟩
  ·exact .inl h1.1
  ·exact .inr ⟨gb,cb,h2,dF (by rw[hs _ (TG.lZ (by rw[h1];exact List.mem_singleton.2 rfl))];exact h3)⟩
 Vp:=fun hm=>by
  rcases h.basis with h1 | ⟨gb,cb,sz,h1,h2,h3⟩
  ·exact⟨none,0,h1.2.2⟩
  ·exact⟨_,cb,by rw[h2,hm]⟩
 plus:=(h.plus.le lY hle).le lY hk
 minus:=(h.minus.le uq hle).le uq hk
 j8:=(h.j8.le lY hle).le lY hk
 jQ:=h.jQ.le fJ hle
theorem dz.self{H:Heap}{G:TG}{L:TL}{T:ao}(h:dz H G L T):Fj (rem H G.gs) H G L T:=h.w (.refl _) (bG _ _) (fun _ _=>rfl)
theorem Fj.bv{K H:Heap}{G:TG}{L:TL}{T:ao}(h:Fj K H G L T):∃A c,G.bv = .slice A T.m c∧Rd H A (ee T.B T.m):=by
 rcases h.basis with h1 | ⟨gb,cb,h1,h2⟩
 ·obtain⟨A,c,h2⟩:=h.Vp h1
  refine⟨A,c,by rw[h1];exact h2,fun i v hv=> ?_⟩
  rw[h1]at hv
  simp[ee]at hv
 ·exact⟨_,cb,h1,h2⟩
theorem aR.one{α:Type}{P:Heap→List Value→α→Prop}{H:Heap}{v:Value}{l:List α}(h:aR P 1 H v l):∃A c xs,v = .slice A l.length c∧Rd H A xs∧∀(i:Nat)(a:α),l[i]? = some a→∃u,xs[i]? = some u∧P H [u] a:=by
 obtain⟨A,c,xs,h1,_,h3,h4⟩:=h
 exact⟨A,c,xs,h1,h3,fun i a ha=>h4.one ha⟩
theorem aR.num{H:Heap}{v:Value}{l:List Rat}(h:aR bE 3 H v l):∃A c xs,v = .slice A l.length c∧Rd H A xs∧∀(i:Nat)(q:Rat),l[i]? = some q→∃n d b,bE H [.int .i64 n,.int .i64 d,.pointer b] q∧∀(j:Nat)(u:Value),[.int .i64 n,.int .i64 d,.pointer b][j]? = some u→xs[i*3+j]? = some u:=by
 obtain⟨A,c,xs,h1,_,h3,h4⟩:=h
 refine⟨A,c,xs,h1,h3,fun i q hq=> ?_⟩
 obtain⟨vs,_,h5,h6⟩:=h4.get hq
 obtain⟨n,d,b,rfl⟩:=h5.cells
 exact⟨n,d,b,h5,h6⟩
structure eH(gs:List Nat)(H0 H:Heap)(z:Nat)(xs:List Value)(sz e:Nat):Prop where
 aE:H z=some ⟨xs,sz,e,true⟩
 zn:H0 z=none
 zg:¬z∈gs
 le:Heap.le (rem H0 gs) (rem H (z::gs))
 same:∀q,q∈gs→H q=H0 q
section
variable {gs:List Nat} {H0 H H':Heap} {z:Nat} {xs pN:List Value} {sz e:Nat}
theorem eH.new(hn:∀q,q∈gs→H0 q≠none)(hz:H0 z=none):eH gs H0 (ins H0 z ⟨xs,sz,e,true⟩) z xs sz e:=
 ⟨bo _ _ _,hz,fun h=>hn z h hz,by rw[vE _ hz];exact .refl _,fun q hq=>a7 _ _ (fun e=>hn q hq (by rw[e];exact hz))⟩
theorem eH.ne(h:eH gs H0 H z xs sz e)(hn:∀q,q∈gs→H0 q≠none):∀q,q∈z::gs→H q≠none:=fun q hq=>by
 rcases List.mem_cons.1 hq with rfl | hq
 ·rw[h.aE];simp
 ·rw[h.same q hq];exact hn q hq
theorem eH.kept(h:eH gs H0 H z xs sz e)(k:Kept (z::gs) H H'):eH gs H0 H' z xs sz e:=
 ⟨by rw[k.same z (List.mem_cons_self ..)];exact h.aE,h.zn,h.zg,h.le.trans k.le,fun q hq=>(k.same q (List.mem_cons_of_mem _ hq)).trans (h.same q hq)⟩
theorem eH.set(h:eH gs H0 H z xs sz e){en:Ent}(he:en=⟨pN,sz,e,true⟩):eH gs H0 (ins H z en) z pN sz e:=
 ⟨by rw[bo,he],h.zn,h.zg,by rw[cC _ (List.mem_cons_self ..)];exact h.le,fun q hq=>by rw[a7 _ _ (fun(e':q=z)=>h.zg (by rw[←e'];exact hq))];exact h.same q hq⟩
theorem eH.hle(h:eH gs H0 H z xs sz e):Heap.le H0 H:=fun g en hg=>by
 by_cases hm:g∈gs
 ·exact⟨en,by rw[h.same g hm];exact hg,.refl en⟩
 ·obtain⟨e',h1,h2⟩:=h.le g en (by rw[bL hm];exact hg)
  obtain⟨Md,h3,h4⟩:=bG H (z::gs) g e' h1
  exact⟨Md,h3,h2.trans h4⟩
theorem eH.done(h:eH gs H0 H z xs sz e):Kept gs H0 H∧Heap.le (rem H (z::gs)) (rem H gs):=⟨⟨h.le.trans (Nz H z gs),h.same⟩,Nz H z gs⟩
theorem eH.rd(h:eH gs H0 H z xs sz e):Rd (rem H gs) (some ⟨z,0,none⟩) xs:=fun i v hv=>⟨_,rfl,by simp[ar.cell,iA,bL h.zg,h.aE,hv]⟩
theorem eH.tab{H:Heap}{G:TG}{L:TL}{T:ao}(ht:dz H0 G L T)(h:eH G.gs H0 H z xs sz e):Fj (rem H (z::G.gs)) H G L T:=ht.w h.le (bG _ _) h.same
end
structure CO{α:Type}(P:Heap→List Value→α→Prop)(s:Nat)(gs:List Nat)(H:Heap)(l:List α)(v:Value)(H':Heap):Prop where
 kept:Kept gs H H'
 le:Heap.le H H'
 val:aR P s (rem H' gs) v l
theorem Fn.JT{α:Type}{P:Heap→List Value→α→Prop}{s:Nat}{Q:Program}{f:FuncId}{args:Array Value}{H:Heap}{gs:List Nat}{l:List α}(jA:∀g,g∈gs→H g≠none)(h:Fn Q f args (rem H gs) (JB P s (rem H gs) l)):Fn Q f args H (CO P s gs H l):=
 (Fn.frame jA h).mono fun v H' hf=>⟨.of hf fun v K hp=>hp.1,hf.le fun v K hp=>hp.1,hf.post.2⟩
structure FrZ(gs:List Nat)(H:Heap)(n:Nat)(v:Value)(H':Heap):Prop where
 le:Heap.le H H'
 val:∃z xs,v = .slice (some ⟨z,0,none⟩) n n∧eH gs H H' z xs (n*3) 90∧∀K:Heap,bC (bE K) 3 xs (aH (fun _=>0) n)
theorem aex(n:Nat):aH (fun _=>0) n=List.replicate n 0:=by
 apply List.ext_getElem?
 intro i
 by_cases h:i<n
 ·rw[di h,List.getElem?_replicate,if_pos h]
 ·rw[List.getElem?_eq_none (by rw[aW];omega),List.getElem?_eq_none (by rw[List.length_replicate];omega)]
theorem CP{H:Heap}{gs:List Nat}(jA:∀g,g∈gs→H g≠none){n:Nat}(hn:(n:Int)≤8796093022208):Fn Tryz.prog 56 #[.int .i64 (n:Int)] H (FrZ gs H n):=
 (ad5 hn).mono fun v H' ⟨g,xs,h1,h2,h3,h4⟩=>by
  rw[List.length_replicate]at h2 h3
  refine⟨by rw[h3];exact Heap.bI _ h1,g,xs,h2,by rw[h3];exact .new jA h1,fun K=>by rw[aex];exact h4 K⟩
def bQ(f:Nat→Rat)(k:Nat)(q:Rat)(j:Nat):Rat:=if j=k then q else f j
theorem On{f:Nat→Rat}{n k:Nat}{q:Rat}:(aH f n).set k q=aH (bQ f k q) n:=by
 apply List.ext_getElem?
 intro j
 by_cases hj:j<n
 ·by_cases e:j=k
  ·subst e
   rw[List.getElem?_set_self (by rw[aW];exact hj),di hj];simp[bQ]
  ·rw[List.getElem?_set_ne (fun e'=>e e'.symm),di hj,di hj];simp[bQ,e]
 ·rw[List.getElem?_eq_none (by rw[List.length_set,aW];omega),List.getElem?_eq_none (by rw[aW];omega)]
theorem re{K:Heap}{xs vs:List Value}{f:Nat→Rat}{n k:Nat}{q:Rat}(h:bC (bE K) 3 xs (aH f n))(hk:k<n)(hv:bE K vs q):bC (bE K) 3 (aI xs (k*3) vs) (aH (bQ f k q) n):=by
 rw[←On];exact h.set (by rw[aW];exact hk) hv hv.len
theorem nn{xs vs:List Value}{s e k sz:Nat}:({(⟨xs,s,e,true⟩:Ent)with xs:=aI xs (0+k*sz) vs}:Ent)=⟨aI xs (k*sz) vs,s,e,true⟩:=by rw[Nat.zero_add]
end Go.ar
namespace Go.ar
open Go.Proofs Num Lp
theorem aey{u k:Nat}(h:u≤k)(j:Nat):ao.jq u (k+1) j=bQ (ao.jq u k) k 1 j:=by
 unfold bQ ao.jq
 by_cases e:j=k
 ·rw[if_pos (by omega),if_pos e]
 ·rw[if_neg e]
  by_cases e2:u≤j∧j<k
  ·rw[if_pos (by omega)];simp only[e2,and_self,if_true]
  ·rw[if_neg (by omega)];simp only[e2,if_false]
theorem Vq{H:Heap}{G:TG}{L:TL}{T:ao}(h:dz H G L T)(hc:iE H G L T)(hs:(aG (T.c L.w):Int)≤1099511627776):
 Fn Tryz.prog 52 #[.pointer (some ⟨G.g,0,none⟩)] H (U8 G.gs H (-(T.c L.w))):=by
 obtain⟨gc,cc,JO,a6,Ah⟩:=id hc
 obtain⟨xc,nc,dc,bc,l0,wX,sU⟩:=Ah.rd (di (show L.w<L.w+1 by omega))
 have kK:cell H ((⟨G.g,0,none⟩:Addr).add 7)=some (.slice (some ⟨gc,0,none⟩) (L.w+1) cc):=by rw[←a6];exact h.cell rfl
 refine aZ (args:=[_]) Tryz.func52 rfl rfl Tryz.ntmps52 rfl rfl fun w0=> ?_;refine ag [0] rfl ?_;refine ab ?_;refine bt dM rfl ?_;refine aa [0,2] ?_;refine bJ .bF [0,1,2,3,4,5,6,7,8,9,10,11] follows (by kernel_rfl) ?_;refine vr 2 ?_;refine aS ae rfl rfl rfl ?_;refine aN ae rfl rfl rfl (kK) ?_;refine vr 2 ?_;refine aS ae rfl rfl rfl ?_;refine aN ae rfl rfl rfl (h.iF) ?_;refine bR (vs:=[.int .i64 nc,.int .i64 dc,.pointer bc]) ae rfl rfl rfl rfl l0 rfl (by decide) (by rw[Int.toNat_natCast];exact sU) (by omega) (by omega) fun _=> ?_;refine aO rfl rfl (Fn.iU h.ne (Cv wX hs)) (fun _ _ h=>by first | exact h.le | exact h.1) ?_;rintro v1 H1 ⟨fW,bH,n1,d1,b1,rfl,bW⟩;obtain⟨ti,aj,ak⟩:=bV;refine aJ (.inl ⟨rfl,rfl⟩) rfl rfl rfl aj ak rfl rfl rfl ?_;refine aa [2] ?_;obtain⟨bX,aK,aL⟩:=bV;refine az ⟨.inr rfl,_,.agg rfl Tryz.underlying90 aK aL (.nil),?_⟩;exact⟨fW,bH,n1,d1,b1,rfl,bW⟩
theorem Vr{H:Heap}{G:TG}{L:TL}{T:ao}(h:dz H G L T)(hw:(L.w:Int)≤1000000):
 Fn Tryz.prog 50 #[.pointer (some ⟨G.g,0,none⟩)] H (CO bE 3 G.gs H (aH (ao.jq L.u L.w) L.w)):=by
 have l4:=h.uw;refine aZ (args:=[_]) Tryz.func50 rfl rfl Tryz.ntmps50 rfl rfl fun w0=> ?_;refine ag [0] rfl ?_;refine ab ?_;refine vr 1 ?_;refine aa [0] ?_;refine ab ?_;refine vr 2 ?_;refine aS ae rfl rfl rfl ?_;refine aN ae rfl rfl rfl (h.iF) ?_;refine aw rfl rfl (CP h.ne (by omega)) ?_;rintro v1 H1 ⟨bH,z,xs,rfl,ku,gE⟩;have fX:=ku.tab h;refine vr 1 ?_;refine aa [0,3] ?_;refine al ?_;refine ab ?_;refine vr 2 ?_;refine aS ae rfl rfl rfl ?_;refine aN ae rfl rfl rfl (fX.cell 1 _ rfl) ?_;refine vr 1 ?_;refine aa [0,3,4] ?_;refine aC ?_;refine gy (fun(k:Nat)(xs:List Value)=>L.w-k) (fun(k:Nat)(xs:List Value)=>put (put (put (emp) 0 (.val (.pointer (some ⟨G.g,0,none⟩)))) 3 (.val (.slice (some ⟨z,0,none⟩) L.w L.w))) 4 (.val (.int .i64 (k:Int)))) (fun(k:Nat)(xs:List Value) H'=>eH G.gs H H' z xs (L.w*3) 90∧(∀K:Heap,bC (bE K) 3 xs (aH (ao.jq L.u k) L.w))∧L.u≤k∧k≤L.w) L.u xs (⟨ku,fun K=>by rw[j6 (g:=fun _=>0) (fun j _=>by unfold ao.jq;rw[if_neg (by omega)])];exact gE K,Nat.le_refl _,l4⟩) an ?_;rintro k xs H2 ⟨ef,kM,huk,hkw⟩;have kI:=ef.tab h;have cB:=(kM H).len;rw[aW]at cB;refine al ?_;refine ab ?_;refine vr 3 ?_;refine aS ae rfl rfl rfl ?_
 refine aN ae rfl rfl rfl (by have:=kI.cell 0 _ rfl;rwa [iA]at this) ?_;refine vr 1 ?_;refine aa [0,3,4,19] ?_;refine aB rfl (fun hb=> ?_) (fun hb=> ?_)
 ·
  have hb:k<L.w:=by simpa using hb
  refine au ?_;refine ag [0,3,4] rfl ?_;refine al ?_;refine aC ?_;refine av rfl ?_;refine vr 2 ?_;refine aw rfl rfl (pe) ?_;rintro v3 H3 ⟨e3,rfl⟩;rw[e3];obtain⟨ti,aj,ak⟩:=bV;refine cM (.inl rfl) ae rfl rfl rfl (by omega) (by omega) (ef.aE) rfl (by show 0+L.w*3≤xs.length;omega) aj ak (fun _=>rfl) rfl rfl rfl fun _=> ?_;refine aq ?_;refine ag [0,3,4] rfl ?_;refine av rfl ?_;refine vr 1 ?_;refine aD rfl rfl ⟨by omega,by omega⟩ ?_;refine vr 1 ?_;refine aq ?_;exact⟨k+1,aI xs (k*3) [.int .i64 1,.int .i64 1,.pointer none],by omega,an,ef.set nn,fun K=>by rw[j6 (g:=bQ (ao.jq L.u k) k 1) (fun j _=>aey huk j)];exact re (kM K) hb (pd K (n:=1) (by decide) (by decide)),by omega,by omega⟩
 ·
  have hb:L.w≤k:=by simpa using hb
  obtain rfl:k=L.w:=by omega
  refine aU ?_;refine ag [3] rfl ?_;refine ab ?_;refine vr 2 ?_;refine aa [2] ?_;refine az ⟨.inr rfl,_,.tmp rfl (.nil),?_⟩;exact⟨ef.done.1,ef.hle,some ⟨z,0,none⟩,L.w,xs,by rw[aW];rfl,by rw[aW];exact Nat.le_refl _,ef.rd,kM _⟩
theorem aez{H:Heap}{G:TG}{L:TL}{T0:ao}{N:Nat}{J:Nat→ao→Prop}(h:dz H G L T0)(hc:iE H G L T0)(hJ:J 0 T0)(Vs:∀k S,J k S→k<S.m→(S.B k<L.u∨∀j,j<L.u→S.A k j=0)→J (k+1) S)
 (aeA:∀k S s,J k S→k<S.m→L.u≤S.B k→s<L.u→S.A k s≠0→J (k+1) (S.pivot k s)) (hinv:∀k S,J k S→Sz N S∧S.m=T0.m∧S.n=T0.n) (hN:(N:Int)≤137438953472) (hw:(L.w:Int)≤1000000) (hm:(T0.m:Int)≤1000000):
 Fn Tryz.prog 55 #[.pointer (some ⟨G.g,0,none⟩)] H (fun _ H'=>∃T,J T0.m T∧dz H' G L T∧iE H' G L T∧Heap.le (rem H G.gs) (rem H' G.gs)):=by
 have l4:=h.uw
 obtain⟨Ab,cb,cY,_⟩:=h.self.bv
 have kL:cell H ((⟨G.g,0,none⟩:Addr).add 8)=some (.slice Ab T0.m cb):=by rw[←cY];exact h.cell rfl
 refine aZ (args:=[_]) Tryz.func55 rfl rfl Tryz.ntmps55 rfl rfl fun w0=> ?_;refine ag [0] rfl ?_;refine ab ?_;refine vr 2 ?_;refine aS ae rfl rfl rfl ?_;refine aN ae rfl rfl rfl (kL) ?_;refine vr 2 ?_;refine aa [0,8,9,10] ?_;refine aC ?_;refine gy (fun(k:Nat)(T:ao)=>T0.m-k) (fun(k:Nat)(T:ao)=>put (put (put (put (emp) 0 (.val (.pointer (some ⟨G.g,0,none⟩)))) 8 (.val (.slice Ab T0.m cb))) 9 (.val (.int .i64 (T0.m:Int)))) 10 (.val (.int .i64 (k:Int)))) (fun(k:Nat)(T:ao) H'=>dz H' G L T∧iE H' G L T∧J k T∧Heap.le (rem H G.gs) (rem H' G.gs)∧k≤T0.m) 0 T0 (⟨h,hc,hJ,.refl _,Nat.zero_le _⟩) an ?_;rintro k T H1 ⟨h1,iS,Fk,fa,fW⟩;obtain⟨cO,Vk,Oi⟩:=hinv k T Fk;obtain⟨A2,c2,Fl,ED⟩:=h1.self.bv;rw[cY]at Fl
 obtain⟨rfl,-,rfl⟩:Ab=A2∧T0.m=T.m∧cb=c2:=by simpa using Fl
 refine ab ?_;refine vr 1 ?_;refine aa [0,8,9,10,11] ?_;refine al ?_;refine aB rfl (fun hb=> ?_) (fun hb=> ?_)
 ·
  have kZ:k<T0.m:=by simpa using hb
  have Ak:k<T.m:=by omega
  obtain⟨pk,qc⟩:=h1.get Ak;refine au ?_;refine ag [0,8,9,10] rfl ?_;refine al ?_;refine aC ?_;refine ab ?_;refine vr 1 ?_;refine aM ae rfl rfl rfl rfl rfl (ED) (by rw[Int.toNat_natCast];exact gj Ak) (by omega) (by omega) fun _=> ?_;refine vr 2 ?_;refine aa [0,2,3,8,9,10] ?_;refine al ?_;refine ab ?_;refine vr 3 ?_;refine aS ae rfl rfl rfl ?_;refine aN ae rfl rfl rfl (h1.cell rfl) ?_;refine vr 1 ?_;refine aa [0,2,8,9,10,20] ?_;refine aB rfl (fun hb=> ?_) (fun hb=> ?_)
  ·
   have hb:T.B k<L.u:=by simp at hb;omega
   refine aU ?_;refine ag [0,8,9,10] rfl ?_;refine av rfl ?_;refine aD rfl rfl ⟨by omega,by omega⟩ ?_;refine vr 1 ?_;refine aq ?_;exact⟨k+1,T,by omega,an,h1,iS,Vs k T Fk Ak (.inl hb),fa,by omega⟩
  ·
   have hBu:L.u≤T.B k:=by simp at hb;omega
   refine au ?_;refine ag [0,2,8,9,10] rfl ?_;refine ab ?_;refine vr 2 ?_;refine aS ae rfl rfl rfl ?_;refine aN ae rfl rfl rfl (h1.cell rfl) ?_;refine vr 1 ?_;refine aa [0,2,8,9,10,24,25] ?_;refine aC ?_;refine fZ (fun(j:Nat)=>L.u-j) (fun(j:Nat)=>put (put (put (put (put (put (put (emp) 0 (.val (.pointer (some ⟨G.g,0,none⟩)))) 2 (.val (.int .i64 (k:Int)))) 8 (.val (.slice Ab T0.m cb))) 9 (.val (.int .i64 (T0.m:Int)))) 10 (.val (.int .i64 (k:Int)))) 24 (.val (.int .i64 (L.u:Int)))) 25 (.val (.int .i64 (j:Int)))) (fun(j:Nat) H'=>Kept G.gs H1 H'∧j≤L.u∧∀i,i<j→T.A k i=0) 0 (⟨.refl _ _,Nat.zero_le _,fun i hi=>by omega⟩) an ?_;rintro j H3 ⟨de,hju,sV⟩;have h3:=h1.kept de;refine ab ?_;refine vr 1 ?_;refine aa [0,2,8,9,10,24,25,26] ?_;refine al ?_;refine aB rfl (fun hb=> ?_) (fun hb=> ?_)
   ·
    have Vt:j<L.u:=by simpa using hb
    obtain⟨Oo,vQ,gC⟩:=h3.rows;obtain⟨xj,nj,dj,bj,hrj,hnj,Vu⟩:=(h3.row k pk qc).rd (di (show j<L.w+1 by omega));have Vv:=cO.A k Ak j (by rw[h1.n];omega);refine au ?_;refine ag [0,2,8,9,10,24,25] rfl ?_;refine al ?_;refine aC ?_;refine ab ?_;refine vr 2 ?_;refine aa [0,2,4,8,9,10,24,25] ?_;refine ab ?_;refine vr 2 ?_;refine aS ae rfl rfl rfl ?_;refine aN ae rfl rfl rfl (h3.cell rfl) ?_;refine vr 1 ?_;refine aM ae rfl rfl rfl rfl rfl (vQ.le (bG _ _)) (by rw[Int.toNat_natCast];exact gC k pk qc) (by omega) (by omega) fun _=> ?_;refine vr 1 ?_;refine bR (vs:=[.int .i64 nj,.int .i64 dj,.pointer bj]) ae rfl rfl rfl rfl hrj rfl (by decide) (by rw[Int.toNat_natCast];exact Vu) (by omega) (by omega) fun _=> ?_;refine aw rfl rfl (Fn.kX h3.ne (iT hnj (by omega))) ?_;rintro v4 H4 ⟨fu,cE,rfl⟩;have h4:=h3.kept fu;refine vr 1 ?_;refine aa [0,2,4,8,9,10,24,25,39] ?_;refine aB rfl (fun hb=> ?_) (fun hb=> ?_)
    ·
     have Vw:T.A k j≠0:=fun e=>by rw[e]at hb;simp[fo]at hb
     have Vx:=aeA k T j Fk Ak hBu Vt Vw;obtain⟨Vy,_,_⟩:=hinv _ _ Vx;refine ab ?_;refine vr 3 ?_;refine aw rfl rfl (Ve (N:=N) h4 ((iS.kept de).kept fu) Ak (by omega) Vw cO Vy (by omega) hw (by omega)) ?_;rintro v5 H5 ⟨h5,mK,gU⟩;refine aa [0,8,9,10] ?_;refine aU ?_;refine ag [0,8,9,10] rfl ?_;refine av rfl ?_;refine aD rfl rfl ⟨by omega,by omega⟩ ?_;refine vr 1 ?_;refine aq ?_;exact⟨k+1,T.pivot k j,by omega,an,h5,mK,Vx,(fa.trans (de.trans fu).le).trans gU,by omega⟩
    ·
     have hb:T.A k j=0:=q6 (by simpa using hb);refine au ?_;refine ag [0,2,8,9,10,24,25] rfl ?_;refine av rfl ?_;refine aD rfl rfl ⟨by omega,by omega⟩ ?_;refine vr 1 ?_;refine aq ?_;exact⟨j+1,by omega,an,de.trans fu,by omega,fun i hi=>by by_cases e:i=j;(rw[e];exact hb);exact sV i (by omega)⟩
   ·
    have hb:L.u≤j:=by simpa using hb
    obtain rfl:j=L.u:=by omega
    refine aU ?_;refine ag [0,8,9,10] rfl ?_;refine av rfl ?_;refine aD rfl rfl ⟨by omega,by omega⟩ ?_;refine vr 1 ?_;refine aq ?_;exact⟨k+1,T,by omega,an,h3,iS.kept de,Vs k T Fk Ak (.inr sV),fa.trans de.le,by omega⟩
 ·
  have hb:T0.m≤k:=by simpa using hb
  obtain rfl:k=T0.m:=by omega
  refine aU ?_;refine⟨.inl rfl,_,.nil,?_⟩;exact⟨T,Fk,h1,iS,fa⟩
end Go.ar
namespace Go.ar
open Go.Proofs Num Lp
def TL.pF(L:TL)(j:Nat):Nat:=L.plus.getD j 0
def TL.mZ(L:TL)(j:Nat):Int:=L.minus.getD j (-1)
def TL.mF(L:TL)(j:Nat):Option Nat:=if 0≤L.mZ j then some (L.mZ j).toNat else none
def TL.uF(L:TL)(i:Nat):Nat:=L.j8.getD i 0
def TL.sF(L:TL)(i:Nat):Rat:=fn L.jQ i
structure TL.Ok(L:TL)(n m:Nat):Prop where
 JU:L.plus.length=n
 JV:L.minus.length=n
 Oq:L.j8.length=m
 Ot:L.jQ.length=m
 pw:∀j,j<n→L.pF j<L.w
 mw:∀j,j<n→L.mZ j<L.w
 uw:∀i,i<m→L.uF i<L.w
 s1:∀i,i<m→aG (L.sF i)≤1
section
variable {L:TL} {n m:Nat}
theorem TL.Ok.p(h:L.Ok n m){j:Nat}(hj:j<n):L.plus[j]? = some (L.pF j):=by
 have:j<L.plus.length:=by rw[h.JU];exact hj
 simp[TL.pF,List.getD,List.getElem?_eq_getElem this]
theorem TL.Ok.mi(h:L.Ok n m){j:Nat}(hj:j<n):L.minus[j]? = some (L.mZ j):=by
 have:j<L.minus.length:=by rw[h.JV];exact hj
 simp[TL.mZ,List.getD,List.getElem?_eq_getElem this]
theorem TL.Ok.u(h:L.Ok n m){i:Nat}(hi:i<m):L.j8[i]? = some (L.uF i):=by
 have:i<L.j8.length:=by rw[h.Oq];exact hi
 simp[TL.uF,List.getD,List.getElem?_eq_getElem this]
theorem TL.Ok.s(h:L.Ok n m){i:Nat}(hi:i<m):L.jQ[i]? = some (L.sF i):=by
 have:i<L.jQ.length:=by rw[h.Ot];exact hi
 simp[TL.sF,fn,List.getD,List.getElem?_eq_getElem this]
end
theorem aeB{α:Type}(l:List α)(k:Nat)(a b:α):(l.set k a).set k b=l.set k b:=by simp
theorem Ou{K:Heap}{xs vs:List Value}{l:List (Option Rat)}{k:Nat}{q:Rat}(h:bC (gO bE K) 3 xs l)(hk:k<l.length)(hv:bE K vs q):bC (gO bE K) 3 (aI xs (k*3) vs) (l.set k (some q)):=h.set hk (show gO bE K vs (some q)from hv) hv.len
theorem Vz{K:Heap}{xs:List Value}{f:Nat→Rat}{n:Nat}(h:bC (gO bE K) 3 xs (fill (aH f n) n)):bC (bE K) 3 xs (aH f n):=CB (by rw[aW];exact h)
theorem VA{H:Heap}{G:TG}{L:TL}{T:ao}{n m N:Nat}{v:Value}{f:Nat→Rat}(h:dz H G L T)(hL:L.Ok n m)(hv:aR bE 3 (rem H G.gs) v (aH f L.w))(hf:∀j,j<L.w→aG (f j)≤N)(hN:(N:Int)≤274877906944)(hw:(L.w:Int)≤1000000)(hn:(n:Int)≤1000000):
 Fn Tryz.prog 132 #[.pointer (some ⟨G.g,0,none⟩),v] H (CO bT 3 G.gs H (aH (dE.vec L.pF L.mF f) n)):=by
 obtain⟨Av,cv,xv,rfl,mL,tF⟩:=hv.num
 rw[aW]
 have Fm:=h.self
 obtain⟨Ap,cp,xp,rf,fS,Ae⟩:=Fm.plus.one
 obtain⟨Am,cm,xm,ux,kt,Fo⟩:=Fm.minus.one
 rw[hL.JU]at rf
 rw[hL.JV]at ux
 obtain⟨l,hl⟩:∃l,l=dE.vec L.pF L.mF f:=⟨_,rfl⟩
 have bh:cell H ((⟨G.g,0,none⟩:Addr).add 2)=some (.slice Ap n cp):=by rw[←rf];exact h.cell rfl
 refine aZ (args:=[_,_]) Tryz.func132 rfl rfl Tryz.ntmps132 rfl rfl fun w0=> ?_;refine ag [0,1] rfl ?_;refine ab ?_;refine vr 1 ?_;refine aa [0,1] ?_;refine ab ?_;refine vr 2 ?_;refine aS ae rfl rfl rfl ?_;refine aN ae rfl rfl rfl (bh) ?_;refine vr 1 ?_;refine ig Tryz.underlying85 dM rfl rfl rfl (by omega) (by omega) (by omega) (by omega) ?_;intro z iV;rw[show ((n:Int)).toNat=n from by omega];have ku:eH G.gs H _ z (du [.int .i64 0,.int .i64 0,.pointer none] (n*3)) (n*3) 90:=eH.new h.ne iV
 have gE:bC (gO bE (rem (ins H z ⟨du [.int .i64 0,.int .i64 0,.pointer none] (n*3),n*3,90,true⟩) (z::G.gs))) 3 (du [.int .i64 0,.int .i64 0,.pointer none] (n*3)) (fill (aH l n) 0):=by have:=z6 (P:=bE) (H:=rem (ins H z ⟨du [.int .i64 0,.int .i64 0,.pointer none] (n*3),n*3,90,true⟩) (z::G.gs)) (zs:=[.int .i64 0,.int .i64 0,.pointer none]) (sz:=3) (by rfl) (aH l n);rwa [aW]at this
 refine vr 1 ?_;refine aa [0,1,5] ?_;refine al ?_;refine ab ?_;refine vr 3 ?_;refine aa [0,1,5,14,15] ?_;refine aC ?_;refine gy (fun(k:Nat)(xs:List Value)=>n-k) (fun(k:Nat)(xs:List Value)=>put (put (put (put (put (emp) 0 (.val (.pointer (some ⟨G.g,0,none⟩)))) 1 (.val (.slice Av L.w cv))) 5 (.val (.slice (some ⟨z,0,none⟩) n n))) 14 (.val (.int .i64 (n:Int)))) 15 (.val (.int .i64 (k:Int)))) (fun(k:Nat)(xs:List Value) H'=>eH G.gs H H' z xs (n*3) 90∧bC (gO bE (rem H' (z::G.gs))) 3 xs (fill (aH l n) k)∧k≤n) 0 _ (⟨ku,gE,Nat.zero_le _⟩) an ?_;rintro k xs H2 ⟨ef,kM,fA⟩;have mH:=mG (l:=aH l n) (k:=k) (by rw[aW];exact fA);rw[aW]at mH;have cB:=kM.len;rw[mH]at cB;have kI:=ef.tab h;have lx:=ef.hle;refine ab ?_;refine vr 1 ?_;refine aa [0,1,5,14,15,16] ?_;refine al ?_;refine aB rfl (fun hb=> ?_) (fun hb=> ?_)
 ·
  have fR:k<n:=by simpa using hb
  obtain⟨up,Fp,Fq⟩:=Ae k _ (hL.p fR);obtain⟨um,yd,Fs⟩:=Fo k _ (hL.mi fR)
  cases Fq
  cases Fs
  have wP:=hL.pw k fR;have VB:=hL.mw k fR;obtain⟨n1,d1,b1,cK,eD⟩:=tF _ _ (di wP);have iL:=hf _ wP;have aeC:=fS.le lx;have ake:=kt.le lx;have CQ:=(mL.le ef.le).le (bG _ _)
  have aeD:cell H2 ((⟨G.g,0,none⟩:Addr).add 2)=some (.slice Ap n cp):=by rw[←rf];exact kI.cell 2 _ rfl
  refine au ?_;refine ag [0,1,5,14,15] rfl ?_;refine al ?_;refine aC ?_;refine ab ?_;refine vr 2 ?_;refine aa [0,1,5,6,14,15] ?_;refine ab ?_;refine vr 5 ?_;refine aS ae rfl rfl rfl ?_;refine aN ae rfl rfl rfl (aeD) ?_;refine vr 1 ?_;refine aM ae rfl rfl rfl rfl rfl (aeC) (by rw[Int.toNat_natCast];exact Fp) (by omega) (by omega) fun _=> ?_;refine bR (vs:=[.int .i64 n1,.int .i64 d1,.pointer b1]) ae rfl rfl rfl rfl CQ rfl (by decide) (by rw[Int.toNat_natCast];exact eD) (by omega) (by omega) fun _=> ?_;obtain⟨ti,aj,ak⟩:=bV;refine cM (.inl rfl) ae rfl rfl rfl (by omega) (by omega) (ef.aE) rfl (by show 0+n*3≤xs.length;omega) aj ak (fun _=>rfl) rfl rfl rfl fun _=> ?_;refine aa [0,1,5,6,14,15] ?_;have gP:eH G.gs H _ z (aI xs (k*3) [.int .i64 n1,.int .i64 d1,.pointer b1]) (n*3) 90:=ef.set (nn (k:=k) (sz:=3))
  have qh:bC (gO bE (rem (ins H2 z {(⟨xs,n*3,90,true⟩:Ent)with xs:=aI xs (0+k*3) [.int .i64 n1,.int .i64 d1,.pointer b1]}) (z::G.gs))) 3 (aI xs (k*3) [.int .i64 n1,.int .i64 d1,.pointer b1]) ((fill (aH l n) k).set k (some (f (L.pF k)))):=by
   rw[cC _ (List.mem_cons_self ..)];exact Ou kM (by rw[mH];exact fR) (cK.le ef.le)
  generalize hH3:ins H2 z {(⟨xs,n*3,90,true⟩:Ent)with xs:=aI xs (0+k*3) [.int .i64 n1,.int .i64 d1,.pointer b1]}=H3 at gP qh
  have aeE:ins H2 z {(⟨xs,n*3,90,true⟩:Ent)with xs:=aI xs (0+((k:Int)).toNat*3) [.int .i64 n1,.int .i64 d1,.pointer b1]}=H3:=hH3;rw[show ∀e:Ent,e = {(⟨xs,n*3,90,true⟩:Ent)with xs:=aI xs (0+((k:Int)).toNat*3) [.int .i64 n1,.int .i64 d1,.pointer b1]}→ins H2 z e=H3 from fun e he=>by rw[he];exact aeE]
  rotate_left
  ·rfl
  have M8:=gP.tab h;have VD:=kt.le gP.hle;have aeF:=(mL.le gP.le).le (bG _ _)
  have dC:cell H3 ((⟨G.g,0,none⟩:Addr).add 3)=some (.slice Am n cm):=by rw[←ux];exact M8.cell 3 _ rfl
  refine ab ?_;refine vr 2 ?_;refine aS ae rfl rfl rfl ?_;refine aN ae rfl rfl rfl (dC) ?_;refine vr 1 ?_;refine aM ae rfl rfl rfl rfl rfl (VD) (by rw[Int.toNat_natCast];exact yd) (by omega) (by omega) fun _=> ?_;refine vr 1 ?_;refine aa [0,1,5,6,14,15,38] ?_;refine aB rfl (fun hb=> ?_) (fun hb=> ?_)
  ·
   have hb:0≤L.mZ k:=by simpa using hb
   obtain⟨n2,d2,b2,gB,eE⟩:=tF _ _ (di (show (L.mZ k).toNat<L.w by omega));have iM:=hf (L.mZ k).toNat (by omega)
   have gC:∀(j:Nat)(u:Value),[.int .i64 n1,.int .i64 d1,.pointer b1][j]? = some u→(aI xs (k*3) [.int .i64 n1,.int .i64 d1,.pointer b1])[k*3+j]? = some u:=fun j u hu=>by
    have hj:=(List.getElem?_eq_some_iff.1 hu).1
    simp only[List.length_cons,List.length_nil]at hj
    rw[NB _ _ _ _ (by simp only[List.length_cons,List.length_nil];omega),if_pos (by simp only[List.length_cons,List.length_nil];omega),Nat.add_sub_cancel_left];exact hu
   refine dZ .fV [0,1,2,3,4,5,6,7,8,9,10,11,12,13,14,15,16,17,18] follows (by kernel_rfl) ?_;refine vr 4 ?_;refine bR (vs:=[.int .i64 n1,.int .i64 d1,.pointer b1]) ae rfl rfl rfl rfl (dF gP.aE) rfl (by decide) (by rw[Int.toNat_natCast];exact gC) (by omega) (by omega) fun _=> ?_;refine vr 3 ?_;refine aS ae rfl rfl rfl ?_;refine aN ae rfl rfl rfl (dC) ?_;refine vr 1 ?_;refine aM ae rfl rfl rfl rfl rfl (VD) (by rw[Int.toNat_natCast];exact yd) (by omega) (by omega) fun _=> ?_;refine bR (vs:=[.int .i64 n2,.int .i64 d2,.pointer b2]) ae rfl rfl rfl rfl aeF rfl (by decide) eE (by omega) (by omega) fun _=> ?_;refine aO rfl rfl (Fn.iU (gP.ne h.ne) (ug (N:=N) (cK.le gP.le) (gB.le gP.le) iL iM (by omega))) (fun _ _ h=>by first | exact h.le | exact h.1) ?_;rintro v4 H4 ⟨fu,cE,n4,d4,b4,rfl,ct⟩;have oz:=gP.kept fu
   have akf:(aI xs (k*3) [.int .i64 n1,.int .i64 d1,.pointer b1]).length=n*3:=by rw[D8];exact cB
   obtain⟨ti,aj,ak⟩:=bV;refine cM (.inr rfl) ae rfl rfl rfl (by omega) (by omega) (oz.aE) rfl (by show 0+n*3≤(aI xs (k*3) [.int .i64 n1,.int .i64 d1,.pointer b1]).length;omega) aj ak (fun _=>rfl) rfl rfl rfl fun _=> ?_;refine aq ?_;refine ag [0,1,5,14,15] rfl ?_;refine av rfl ?_;refine aD rfl rfl ⟨by omega,by omega⟩ ?_;refine vr 1 ?_;refine aq ?_;exact⟨k+1,aI (aI xs (k*3) [.int .i64 n1,.int .i64 d1,.pointer b1]) (k*3) [.int .i64 n4,.int .i64 d4,.pointer b4],by omega,an,oz.set nn,by rw[cC _ (List.mem_cons_self ..),←xY (a:=f (L.pF k)-f (L.mZ k).toNat) (by rw[di fR,hl];unfold dE.vec TL.mF;rw[if_pos hb];rfl),←aeB (fill (aH l n) k) k (some (f (L.pF k)))];exact Ou (qh.mono fun vs a=>gO.up fJ _ _ vs a fu.le) (by rw[List.length_set,mH];exact fR) ct,by omega⟩
  ·
   have hb:¬0≤L.mZ k:=by simpa using hb
   refine au ?_;refine ag [0,1,5,14,15] rfl ?_;refine av rfl ?_;refine aD rfl rfl ⟨by omega,by omega⟩ ?_;refine vr 1 ?_;refine aq ?_;exact⟨k+1,aI xs (k*3) [.int .i64 n1,.int .i64 d1,.pointer b1],by omega,an,gP,by rw[←xY (a:=f (L.pF k)) (by rw[di fR,hl];unfold dE.vec TL.mF;rw[if_neg hb];simp only[gY];rw[show f (L.pF k)-0=f (L.pF k) by grind])];exact qh,by omega⟩
 ·
  have hb:n≤k:=by simpa using hb
  obtain rfl:k=n:=by omega
  have lB:=ef.done;refine aU ?_;refine ag [5] rfl ?_;refine ab ?_;refine vr 1 ?_
  refine aw rfl rfl (Fn.JT (lB.1.ne h.ne) (U0 (l:=aH l k) ⟨some ⟨z,0,none⟩,k,xs,by rw[aW],by rw[aW];exact Nat.le_refl _,ef.rd,(Vz kM).mono fun vs a=>fJ _ _ vs a lB.2⟩ (fun q hq=>by
  obtain⟨j,hj,rfl⟩:=List.mem_map.1 hq;have hj:=List.mem_range.1 hj;rw[hl];have h1:=hf _ (hL.pw j hj);have h2:=hL.mw j hj
  unfold dE.vec TL.mF
  split
  ·
   have h3:=hf (L.mZ j).toNat (by omega);have h4:=om (f (L.pF j)) (f (L.mZ j).toNat)
   simp only[gY];omega
  ·
   have h4:=om (f (L.pF j)) 0;rw[UY]at h4
   simp only[gY];omega) (by rw[aW];omega))) ?_
  rintro v9 H9 ⟨fM,dX,nr⟩;refine vr 1 ?_;refine aa [4] ?_;refine az ⟨.inr rfl,_,.tmp rfl (.nil),?_⟩;exact⟨lB.1.trans fM,ef.hle.trans dX,by rw[←hl];exact nr⟩
end Go.ar
namespace Go.ar
open Go.Proofs Num Lp
def ye(T:ao)(k j:Nat):Rat:=aX k (fun i=>if T.B i=j then T.A i T.n else 0)
def Al(T:ao)(s k j:Nat):Rat:=(if j=s then 1 else 0)-aX k (fun i=>if T.B i=j then T.A i s else 0)
theorem aeG{T:ao}(hW:T.WF){k:Nat}(hk:k<T.m)(j:Nat):ye T (k+1) j=bQ (ye T k) (T.B k) (T.A k T.n) j:=by
 unfold ye bQ
 rw[fG]
 by_cases e:j=T.B k
 ·rw[if_pos e,if_pos e.symm,mE]
  ·grind
  ·intro i hi
   rw[if_neg (fun e'=>by have:=hW.inj (by omega) hk (e'.trans e);omega)]
 ·rw[if_neg e,if_neg (fun e'=>e e'.symm)];grind
theorem aeH{T:ao}{j:Nat}(hj:j<T.n):ye T T.m j=T.pt j:=by
 unfold ye ao.pt
 rw[if_neg (by omega)]
theorem aeI{T:ao}(hW:T.WF){s k:Nat}(hs:∀i,i<T.m→T.B i≠s)(hk:k<T.m)(j:Nat):Al T s (k+1) j=bQ (Al T s k) (T.B k) (-(T.A k s)) j:=by
 unfold Al bQ
 rw[fG]
 by_cases e:j=T.B k
 ·rw[if_pos e,if_pos e.symm,mE,if_neg (fun e'=>hs k hk (by rw[←e,e']))]
  ·grind
  ·intro i hi
   rw[if_neg (fun e'=>by have:=hW.inj (by omega) hk (e'.trans e);omega)]
 ·rw[if_neg e]
  have e2:(if T.B k=j then T.A k s else 0)=0:=if_neg (fun e'=>e e'.symm)
  rw[e2];grind
theorem VE{H:Heap}{G:TG}{L:TL}{T:ao}{n m N:Nat}(h:dz H G L T)(hW:T.WF)(hL:L.Ok n m)(hz:∀j,j<L.w→aG (T.pt j)≤N)(hN:(N:Int)≤274877906944)(hw:(L.w:Int)≤1000000)(hn:(n:Int)≤1000000)(hm:(T.m:Int)≤1000000):
 Fn Tryz.prog 59 #[.pointer (some ⟨G.g,0,none⟩)] H (CO bT 3 G.gs H (aH (dE.vec L.pF L.mF T.pt) n)):=by
 obtain⟨Ab,cb,cY,_⟩:=h.self.bv;refine aZ (args:=[_]) Tryz.func59 rfl rfl Tryz.ntmps59 rfl rfl fun w0=> ?_;refine ag [0] rfl ?_;refine ab ?_;refine vr 1 ?_;refine aa [0] ?_;refine ab ?_;refine vr 2 ?_;refine aS ae rfl rfl rfl ?_;refine aN ae rfl rfl rfl (h.iF) ?_;refine aw rfl rfl (CP h.ne (by omega)) ?_;rintro v1 H1 ⟨bH,z,xs,rfl,ku,gE⟩;have fX:=ku.tab h;refine vr 1 ?_;refine aa [0,3] ?_;refine al ?_;refine ab ?_;refine vr 2 ?_;refine aS ae rfl rfl rfl ?_;refine aN ae rfl rfl rfl (show cell H1 _=some (.slice Ab T.m cb)from by rw[←cY];exact fX.cell 8 _ rfl) ?_;refine vr 2 ?_;refine aa [0,3,14,15,16] ?_;refine aC ?_;refine gy (fun(k:Nat)(xs:List Value)=>T.m-k) (fun(k:Nat)(xs:List Value)=>put (put (put (put (put (emp) 0 (.val (.pointer (some ⟨G.g,0,none⟩)))) 3 (.val (.slice (some ⟨z,0,none⟩) L.w L.w))) 14 (.val (.slice Ab T.m cb))) 15 (.val (.int .i64 (T.m:Int)))) 16 (.val (.int .i64 (k:Int)))) (fun(k:Nat)(xs:List Value) H'=>eH G.gs H H' z xs (L.w*3) 90∧bC (bE (rem H' (z::G.gs))) 3 xs (aH (ye T k) L.w)∧k≤T.m) 0 xs (⟨ku,by rw[j6 (f:=ye T 0) (g:=fun _=>0) (fun j _=>rfl)];exact gE _,Nat.zero_le _⟩) an ?_;rintro k xs H2 ⟨ef,kM,fA⟩;have kI:=ef.tab h;have cB:=kM.len;rw[aW]at cB
 refine ab ?_;refine vr 1 ?_;refine aa [0,3,14,15,16,17] ?_;refine al ?_;refine aB rfl (fun hb=> ?_) (fun hb=> ?_)
 ·
  have kZ:k<T.m:=by simpa using hb
  obtain⟨Oo,vQ,gC⟩:=kI.rows;obtain⟨pk,qc,xT⟩:=gC k kZ;have Ft:=hW.lt k kZ;rw[h.n]at Ft;obtain⟨A3,c3,rh,An⟩:=kI.bv;rw[cY]at rh
  obtain⟨rfl,-,rfl⟩:Ab=A3∧T.m=T.m∧cb=c3:=by simpa using rh
  have jr:=kI.cell 6 _ rfl;obtain⟨xw,n1,d1,b1,Ff,cK,Fg⟩:=xT.rd (di (show L.w<L.w+1 by omega));refine au ?_;refine ag [0,3,14,15,16] rfl ?_;refine al ?_;refine aC ?_;refine ab ?_;refine vr 1 ?_;refine aM ae rfl rfl rfl rfl rfl (An) (by rw[Int.toNat_natCast];exact gj kZ) (by omega) (by omega) fun _=> ?_;refine vr 2 ?_;refine aa [0,3,4,5,14,15,16] ?_;refine dZ .fV [0,1,2,3,4,5,6,7,8,9,10,11,12,13,14,15,16] follows (by kernel_rfl) ?_;refine vr 4 ?_;refine aS ae rfl rfl rfl ?_;refine aN ae rfl rfl rfl (jr) ?_;refine vr 1 ?_;refine aM ae rfl rfl rfl rfl rfl (vQ) (by rw[Int.toNat_natCast];exact qc) (by omega) (by omega) fun _=> ?_;refine vr 2 ?_;refine aS ae rfl rfl rfl ?_;refine aN ae rfl rfl rfl (by have:=kI.cell 0 _ rfl;rwa [iA]at this) ?_;refine bR (vs:=[.int .i64 n1,.int .i64 d1,.pointer b1]) ae rfl rfl rfl rfl Ff rfl (by decide) (by rw[Int.toNat_natCast];exact Fg) (by omega) (by omega) fun _=> ?_;obtain⟨ti,aj,ak⟩:=bV;refine cM (.inr rfl) ae rfl rfl rfl (by omega) (by omega) (ef.aE) rfl (by show 0+L.w*3≤xs.length;omega) aj ak (fun _=>rfl) rfl rfl rfl fun _=> ?_;refine aq ?_;refine ag [0,3,14,15,16] rfl ?_;refine av rfl ?_;refine aD rfl rfl ⟨by omega,by omega⟩ ?_
  refine vr 1 ?_;refine aq ?_;exact⟨k+1,aI xs (T.B k*3) [.int .i64 n1,.int .i64 d1,.pointer b1],by omega,an,ef.set (by rw[Int.toNat_natCast];exact nn),by rw[cC _ (List.mem_cons_self ..),j6 (g:=bQ (ye T k) (T.B k) (T.A k T.n)) (fun j _=>aeG hW kZ j),h.n];exact re kM Ft cK,by omega⟩
 ·
  have hb:T.m≤k:=by simpa using hb
  obtain rfl:k=T.m:=by omega
  have lB:=ef.done;rw[j6 (g:=T.pt) (fun j hj=>aeH (by rw[h.n];exact hj))]at kM;refine aU ?_;refine ag [0,3] rfl ?_;refine ab ?_;refine vr 2 ?_;refine aw rfl rfl (VA (h.kept lB.1) hL (v:= .slice (some ⟨z,0,none⟩) L.w L.w) (f:=T.pt) ⟨some ⟨z,0,none⟩,L.w,xs,by rw[aW],by rw[aW];exact Nat.le_refl _,ef.rd,kM.mono fun vs a=>fJ _ _ vs a lB.2⟩ hz hN hw hn) ?_;rintro v9 H9 ⟨fM,dX,nr⟩;refine vr 1 ?_;refine aa [2] ?_;refine az ⟨.inr rfl,_,.tmp rfl (.nil),?_⟩;exact⟨lB.1.trans fM,ef.hle.trans dX,nr⟩
theorem aeJ{H:Heap}{G:TG}{L:TL}{T:ao}{n m N s:Nat}(h:dz H G L T)(hW:T.WF)(hL:L.Ok n m)(hs:s<L.w)(rj:∀i,i<T.m→T.B i≠s)(cO:∀i,i<T.m→aG (T.A i s)≤N)(hz:∀j,j<L.w→aG (T.dir s j)≤N)(hN:(N:Int)≤274877906944)(hw:(L.w:Int)≤1000000)(hn:(n:Int)≤1000000)(hm:(T.m:Int)≤1000000):
 Fn Tryz.prog 60 #[.pointer (some ⟨G.g,0,none⟩),.int .i64 (s:Int)] H (CO bT 3 G.gs H (aH (dE.vec L.pF L.mF (T.dir s)) n)):=by
 obtain⟨Ab,cb,cY,_⟩:=h.self.bv;refine aZ (args:=[_,_]) Tryz.func60 rfl rfl Tryz.ntmps60 rfl rfl fun w0=> ?_;refine ag [0,1] rfl ?_;refine ab ?_;refine vr 1 ?_;refine aa [0,1] ?_;refine ab ?_;refine vr 2 ?_;refine aS ae rfl rfl rfl ?_;refine aN ae rfl rfl rfl (h.iF) ?_;refine aw rfl rfl (CP h.ne (by omega)) ?_;rintro v1 H1 ⟨bH,z,xs,rfl,ku,gE⟩;have aeK:=(gE H).len;rw[aW]at aeK;refine vr 1 ?_;refine aa [0,1,5] ?_;refine ab ?_;refine vr 2 ?_;refine aw rfl rfl (pe) ?_;rintro v3 H3 ⟨e3,rfl⟩;rw[e3];obtain⟨ti,aj,ak⟩:=bV;refine cM (.inl rfl) ae rfl rfl rfl (by omega) (by omega) (ku.aE) rfl (by show 0+L.w*3≤xs.length;omega) aj ak (fun _=>rfl) rfl rfl rfl fun _=> ?_;refine aa [0,1,5] ?_;have yf:eH G.gs H (ins H1 z {(⟨xs,L.w*3,90,true⟩:Ent)with xs:=aI xs (0+((s:Int)).toNat*3) [.int .i64 1,.int .i64 1,.pointer none]}) z (aI xs (s*3) [.int .i64 1,.int .i64 1,.pointer none]) (L.w*3) 90:=ku.set (by rw[Int.toNat_natCast];exact nn);have fX:=yf.tab h;refine al ?_;refine ab ?_;refine vr 2 ?_;refine aS ae rfl rfl rfl ?_;refine aN ae rfl rfl rfl (show cell _ _=some (.slice Ab T.m cb)from by rw[←cY];exact fX.cell 8 _ rfl) ?_;refine vr 2 ?_;refine aa [0,1,5,20,21,22] ?_
 refine aC ?_;refine gy (fun(k:Nat)(xs:List Value)=>T.m-k) (fun(k:Nat)(xs:List Value)=>put (put (put (put (put (put (emp) 0 (.val (.pointer (some ⟨G.g,0,none⟩)))) 1 (.val (.int .i64 (s:Int)))) 5 (.val (.slice (some ⟨z,0,none⟩) L.w L.w))) 20 (.val (.slice Ab T.m cb))) 21 (.val (.int .i64 (T.m:Int)))) 22 (.val (.int .i64 (k:Int)))) (fun(k:Nat)(xs:List Value) H'=>eH G.gs H H' z xs (L.w*3) 90∧bC (bE (rem H' (z::G.gs))) 3 xs (aH (Al T s k) L.w)∧k≤T.m) 0 (aI xs (s*3) [.int .i64 1,.int .i64 1,.pointer none]) (⟨yf,by rw[j6 (g:=bQ (fun _=>0) s 1) (fun j _=>by unfold Al bQ;rw[Cw];split <;> grind)];exact re (gE _) hs (pd _ (n:=1) (by decide) (by decide)),Nat.zero_le _⟩) an ?_;rintro k xs H2 ⟨ef,kM,fA⟩;have kI:=ef.tab h;have cB:=kM.len;rw[aW]at cB;refine ab ?_;refine vr 1 ?_;refine aa [0,1,5,20,21,22,23] ?_;refine al ?_;refine aB rfl (fun hb=> ?_) (fun hb=> ?_)
 ·
  have kZ:k<T.m:=by simpa using hb
  obtain⟨Oo,vQ,gC⟩:=kI.rows;obtain⟨pk,qc,xT⟩:=gC k kZ;have Ft:=hW.lt k kZ;rw[h.n]at Ft;obtain⟨A3,c3,rh,An⟩:=kI.bv;rw[cY]at rh
  obtain⟨rfl,-,rfl⟩:Ab=A3∧T.m=T.m∧cb=c3:=by simpa using rh
  have jr:=kI.cell 6 _ rfl;obtain⟨xw,n1,d1,b1,Ff,cK,Fg⟩:=xT.rd (di (show s<L.w+1 by omega));have JE:=cO k kZ;refine au ?_;refine ag [0,1,5,20,21,22] rfl ?_;refine al ?_;refine aC ?_;refine ab ?_;refine vr 1 ?_;refine aM ae rfl rfl rfl rfl rfl (An) (by rw[Int.toNat_natCast];exact gj kZ) (by omega) (by omega) fun _=> ?_;refine vr 2 ?_;refine aa [0,1,5,6,7,20,21,22] ?_;refine av rfl ?_;refine vr 4 ?_;refine aS ae rfl rfl rfl ?_;refine aN ae rfl rfl rfl (jr) ?_;refine vr 1 ?_;refine aM ae rfl rfl rfl rfl rfl (vQ) (by rw[Int.toNat_natCast];exact qc) (by omega) (by omega) fun _=> ?_;refine vr 1 ?_;refine bR (vs:=[.int .i64 n1,.int .i64 d1,.pointer b1]) ae rfl rfl rfl rfl Ff rfl (by decide) (by rw[Int.toNat_natCast];exact Fg) (by omega) (by omega) fun _=> ?_;refine aw rfl rfl (Fn.iU (ef.ne h.ne) (Cv cK (by omega))) ?_;rintro v4 H4 ⟨fu,cE,n4,d4,b4,rfl,ct⟩;have oz:=ef.kept fu;obtain⟨ti,aj,ak⟩:=bV;refine cM (.inl rfl) ae rfl rfl rfl (by omega) (by omega) (oz.aE) rfl (by show 0+L.w*3≤xs.length;omega) aj ak (fun _=>rfl) rfl rfl rfl fun _=> ?_;refine aq ?_;refine ag [0,1,5,20,21,22] rfl ?_;refine av rfl ?_;refine aD rfl rfl ⟨by omega,by omega⟩ ?_;refine vr 1 ?_
  refine aq ?_;exact⟨k+1,aI xs (T.B k*3) [.int .i64 n4,.int .i64 d4,.pointer b4],by omega,an,oz.set (by rw[Int.toNat_natCast];exact nn),by rw[cC _ (List.mem_cons_self ..),j6 (g:=bQ (Al T s k) (T.B k) (-(T.A k s))) (fun j _=>aeI hW rj kZ j)];exact re (kM.mono fun vs a=>fJ _ _ vs a fu.le) Ft ct,by omega⟩
 ·
  have hb:T.m≤k:=by simpa using hb
  obtain rfl:k=T.m:=by omega
  have lB:=ef.done;rw[j6 (f:=Al T s T.m) (g:=T.dir s) (fun j hj=>rfl)]at kM;refine aU ?_;refine ag [0,5] rfl ?_;refine ab ?_;refine vr 2 ?_;refine aw rfl rfl (VA (h.kept lB.1) hL (v:= .slice (some ⟨z,0,none⟩) L.w L.w) (f:=T.dir s) ⟨some ⟨z,0,none⟩,L.w,xs,by rw[aW],by rw[aW];exact Nat.le_refl _,ef.rd,kM.mono fun vs a=>fJ _ _ vs a lB.2⟩ hz hN hw hn) ?_;rintro v9 H9 ⟨fM,dX,nr⟩;refine vr 1 ?_;refine aa [4] ?_;refine az ⟨.inr rfl,_,.tmp rfl (.nil),?_⟩;exact⟨lB.1.trans fM,ef.hle.trans dX,nr⟩
theorem VF{H:Heap}{G:TG}{L:TL}{T:ao}{n m N:Nat}{v:Value}{f:Nat→Rat}(h:dz H G L T)(hc:iE H G L T)(hL:L.Ok n m)(hv:aR bE 3 (rem H G.gs) v (aH f L.w))(hf:∀j,j<L.w→aG (f j)≤N)(JW:∀j,j<L.w→aG (T.c j)≤N)(hN:(N:Int)≤274877906944)(hw:(L.w:Int)≤1000000)(hm:(m:Int)≤1000000):
 Fn Tryz.prog 54 #[.pointer (some ⟨G.g,0,none⟩),v] H (CO bT 3 G.gs H (aH (fun i=>L.sF i*(f (L.uF i)-T.c (L.uF i))) m)):=by
 obtain⟨Av,cv,xv,rfl,mL,tF⟩:=hv.num
 rw[aW]
 have Fm:=h.self
 obtain⟨Au,cu,xu,Fu,hru,hxu⟩:=Fm.j8.one
 obtain⟨As,cs,xs5,p3,qV,wY⟩:=Fm.jQ.num
 rw[hL.Oq]at Fu
 rw[hL.Ot]at p3
 obtain⟨l,hl⟩:∃l,l=(fun i=>L.sF i*(f (L.uF i)-T.c (L.uF i))):=⟨_,rfl⟩
 have CN:∀i,i<m→aG (l i)≤2*N+2:=fun i hi=>by
  have h1:=hf _ (hL.uw i hi)
  have h2:=JW _ (hL.uw i hi)
  have h3:=hL.s1 i hi
  have h4:=om (f (L.uF i)) (T.c (L.uF i))
  have h5:=pc (L.sF i) (f (L.uF i)-T.c (L.uF i))
  rw[hl];show aG (L.sF i*(f (L.uF i)-T.c (L.uF i)))≤_
  omega
 have cE:cell H ((⟨G.g,0,none⟩:Addr).add 4)=some (.slice Au m cu):=by rw[←Fu];exact h.cell rfl
 obtain⟨gc,cc,JO,a6,Ah⟩:=id hc
 have lC:gc∈G.gs:=TG.yc (by rw[JO];exact List.mem_singleton.2 rfl);refine aZ (args:=[_,_]) Tryz.func54 rfl rfl Tryz.ntmps54 rfl rfl fun w0=> ?_;refine ag [0,1] rfl ?_;refine ab ?_;refine vr 1 ?_;refine aa [0,1] ?_;refine ab ?_;refine vr 2 ?_;refine aS ae rfl rfl rfl ?_;refine aN ae rfl rfl rfl (cE) ?_;refine vr 1 ?_;refine ig Tryz.underlying85 dM rfl rfl rfl (by omega) (by omega) (by omega) (by omega) ?_;intro z iV;rw[show ((m:Int)).toNat=m from by omega];have ku:eH G.gs H _ z (du [.int .i64 0,.int .i64 0,.pointer none] (m*3)) (m*3) 90:=eH.new h.ne iV
 have gE:bC (gO bE (rem (ins H z ⟨du [.int .i64 0,.int .i64 0,.pointer none] (m*3),m*3,90,true⟩) (z::G.gs))) 3 (du [.int .i64 0,.int .i64 0,.pointer none] (m*3)) (fill (aH l m) 0):=by have:=z6 (P:=bE) (H:=rem (ins H z ⟨du [.int .i64 0,.int .i64 0,.pointer none] (m*3),m*3,90,true⟩) (z::G.gs)) (zs:=[.int .i64 0,.int .i64 0,.pointer none]) (sz:=3) (by rfl) (aH l m);rwa [aW]at this
 have fX:=ku.tab h;refine vr 1 ?_;refine aa [0,1,5] ?_;refine al ?_;refine ab ?_;refine vr 2 ?_;refine aS ae rfl rfl rfl ?_;refine aN ae rfl rfl rfl (show cell _ _=some (.slice Au m cu)from by rw[←Fu];exact fX.cell 4 _ rfl) ?_;refine vr 2 ?_;refine aa [0,1,5,17,18,19] ?_;refine aC ?_;refine gy (fun(k:Nat)(xs:List Value)=>m-k) (fun(k:Nat)(xs:List Value)=>put (put (put (put (put (put (emp) 0 (.val (.pointer (some ⟨G.g,0,none⟩)))) 1 (.val (.slice Av L.w cv))) 5 (.val (.slice (some ⟨z,0,none⟩) m m))) 17 (.val (.slice Au m cu))) 18 (.val (.int .i64 (m:Int)))) 19 (.val (.int .i64 (k:Int)))) (fun(k:Nat)(xs:List Value) H'=>eH G.gs H H' z xs (m*3) 90∧bC (gO bE (rem H' (z::G.gs))) 3 xs (fill (aH l m) k)∧k≤m) 0 _ (⟨ku,gE,Nat.zero_le _⟩) an ?_;rintro k xs H2 ⟨ef,kM,fA⟩;have mH:=mG (l:=aH l m) (k:=k) (by rw[aW];exact fA);rw[aW]at mH;have cB:=kM.len;rw[mH]at cB;have kI:=ef.tab h;have lx:=ef.hle;refine ab ?_;refine vr 1 ?_;refine aa [0,1,5,17,18,19,20] ?_;refine al ?_;refine aB rfl (fun hb=> ?_) (fun hb=> ?_)
 ·
  have fR:k<m:=by simpa using hb
  obtain⟨uu,huu,aeL⟩:=hxu k _ (hL.u fR)
  cases aeL
  have l4:=hL.uw k fR;obtain⟨n1,d1,b1,cK,eD⟩:=tF _ _ (di l4);obtain⟨n2,d2,b2,gB,eE⟩:=wY k _ (hL.s fR);obtain⟨xc,n3,d3,b3,l0,iR,gC⟩:=(Ah.le ef.le (ef.same gc lC)).rd (di (show L.uF k<L.w+1 by omega));have iL:=hf _ l4;have wT:=JW _ l4;have iM:=hL.s1 k fR;have CQ:=(mL.le ef.le).le (bG _ _);have aeM:=(qV.le ef.le).le (bG _ _);have aeN:=hru.le lx
  have dy:cell H2 ((⟨G.g,0,none⟩:Addr).add 5)=some (.slice As m cs):=by rw[←p3];exact kI.cell 5 _ rfl
  have kK:cell H2 ((⟨G.g,0,none⟩:Addr).add 7)=some (.slice (some ⟨gc,0,none⟩) (L.w+1) cc):=by rw[←a6];exact kI.cell 7 _ rfl
  refine au ?_;refine ag [0,1,5,17,18,19] rfl ?_;refine al ?_;refine aC ?_;refine ab ?_;refine vr 1 ?_;refine aM ae rfl rfl rfl rfl rfl (aeN) (by rw[Int.toNat_natCast];exact huu) (by omega) (by omega) fun _=> ?_;refine vr 2 ?_;refine aa [0,1,5,6,7,17,18,19] ?_;refine dZ .fV [0,1,2,3,4,5,6,7,8,9,10,11,12,13,14,15,16,17,18,19,20,21,22,23] follows (by kernel_rfl) ?_;refine vr 4 ?_;refine aS ae rfl rfl rfl ?_;refine aN ae rfl rfl rfl (dy) ?_;refine vr 1 ?_;refine bR (vs:=[.int .i64 n2,.int .i64 d2,.pointer b2]) ae rfl rfl rfl rfl aeM rfl (by decide) (by rw[Int.toNat_natCast];exact eE) (by omega) (by omega) fun _=> ?_;refine vr 2 ?_;refine bR (vs:=[.int .i64 n1,.int .i64 d1,.pointer b1]) ae rfl rfl rfl rfl CQ rfl (by decide) (by rw[Int.toNat_natCast];exact eD) (by omega) (by omega) fun _=> ?_;refine vr 2 ?_;refine aS ae rfl rfl rfl ?_;refine aN ae rfl rfl rfl (kK) ?_;refine vr 1 ?_;refine bR (vs:=[.int .i64 n3,.int .i64 d3,.pointer b3]) ae rfl rfl rfl rfl l0 rfl (by decide) (by rw[Int.toNat_natCast];exact gC) (by omega) (by omega) fun _=> ?_;refine aO rfl rfl (Fn.iU (ef.ne h.ne) (ug (N:=N) (cK.le ef.le) iR iL wT (by omega))) (fun _ _ h=>by first | exact h.le | exact h.1) ?_
  rintro v4 H4 ⟨fu,akg,n4,d4,b4,rfl,ct⟩;have oz:=ef.kept fu;have VG:=om (f (L.uF k)) (T.c (L.uF k));refine aO rfl rfl (Fn.iU (oz.ne h.ne) (vM (N:=2*N+2) (gB.le oz.le) ct (by omega) (by omega) (by omega))) (fun _ _ h=>by first | exact h.le | exact h.1) ?_;rintro v5 H5 ⟨j7,akh,n5,d5,b5,rfl,eU⟩;have oA:=oz.kept j7;obtain⟨ti,aj,ak⟩:=bV;refine cM (.inr rfl) ae rfl rfl rfl (by omega) (by omega) (oA.aE) rfl (by show 0+m*3≤xs.length;omega) aj ak (fun _=>rfl) rfl rfl rfl fun _=> ?_;refine aq ?_;refine ag [0,1,5,17,18,19] rfl ?_;refine av rfl ?_;refine aD rfl rfl ⟨by omega,by omega⟩ ?_;refine vr 1 ?_;refine aq ?_;exact⟨k+1,aI xs (k*3) [.int .i64 n5,.int .i64 d5,.pointer b5],by omega,an,oA.set nn,by rw[cC _ (List.mem_cons_self ..),←xY (a:=L.sF k*(f (L.uF k)-T.c (L.uF k))) (by rw[di fR,hl])];exact Ou (kM.mono fun vs a=>gO.up fJ _ _ vs a (fu.le.trans j7.le)) (by rw[mH];exact fR) eU,by omega⟩
 ·
  have hb:m≤k:=by simpa using hb
  obtain rfl:k=m:=by omega
  have lB:=ef.done;refine aU ?_;refine ag [5] rfl ?_;refine ab ?_;refine vr 1 ?_
  refine aw rfl rfl (Fn.JT (lB.1.ne h.ne) (U0 (l:=aH l k) ⟨some ⟨z,0,none⟩,k,xs,by rw[aW],by rw[aW];exact Nat.le_refl _,ef.rd,(Vz kM).mono fun vs a=>fJ _ _ vs a lB.2⟩ (fun q hq=>by
  obtain⟨j,hj,rfl⟩:=List.mem_map.1 hq;have:=CN j (List.mem_range.1 hj)
  omega) (by rw[aW];omega))) ?_
  rintro v9 H9 ⟨fM,dX,nr⟩;refine vr 1 ?_;refine aa [4] ?_;refine az ⟨.inr rfl,_,.tmp rfl (.nil),?_⟩;exact⟨lB.1.trans fM,ef.hle.trans dX,by rw[←hl];exact nr⟩
end Go.ar
namespace Go.ar
open Go.Proofs Num Lp
def gn(T:ao)(f:Nat→Rat)(k j:Nat):Rat:=(if j=T.n then 0 else f j)-aX k (fun i=>f (T.B i)*T.A i j)
theorem aeO(T:ao)(f:Nat→Rat)(k j:Nat):gn T f (k+1) j=gn T f k j-f (T.B k)*T.A k j:=by
 unfold gn;rw[fG];grind
theorem vR(f:Nat→Rat)(n:Nat):aH f (n+1)=aH f n ++ [f n]:=by
 unfold aH;rw[List.range_succ,List.map_append];rfl
theorem aeP(f:Nat→Rat)(n:Nat):aH f n ++ [0]=aH (fun j=>if j=n then 0 else f j) (n+1):=by
 rw[vR,j6 (f:=fun j=>if j=n then 0 else f j) (g:=f) (fun j hj=>by show (if j=n then 0 else f j)=f j;rw[if_neg (by omega)]),if_pos rfl]
theorem aeQ{α:Type}{P:List Value→α→Prop}{sz:Nat}{xs:List Value}{l:List α}(h:bC P sz xs l)(hp:0<sz∧∀vs a,P vs a→∀u,u∈vs→u.oneCell'=true):∀u,u∈xs→u.oneCell'=true:=fun u hu=>by
 obtain⟨i,hi⟩:=List.getElem?_of_mem hu
 have bU:=(List.getElem?_eq_some_iff.1 hi).1
 rw[h.len]at bU
 have he:i/sz<l.length:=Nat.div_lt_of_lt_mul (by rw[Nat.mul_comm];exact bU)
 have hq:=h.at_ (i/sz) _ (List.getElem?_eq_getElem he)
 refine hp.2 _ _ hq u ?_
 have:(gX xs (i/sz) sz)[i%sz]? = some u:=by
  unfold gX
  rw[List.getElem?_take,if_pos (Nat.mod_lt _ hp.1),List.getElem?_drop,Nat.div_add_mod'];exact hi
 exact List.mem_of_getElem? this
theorem aeR{K:Heap}:0<3∧∀vs a,bE K vs a→∀u,u∈vs→u.oneCell'=true:=⟨by decide,fun vs a h u hu=>by
 obtain⟨n,d,b,rfl⟩:=h.cells
 simp only[List.mem_cons,List.not_mem_nil,or_false]at hu
 rcases hu with rfl | rfl | rfl <;> rfl⟩
def TG.eG(G:TG)(v:Value)(gc:Nat):TG:={G with cv:=v,cb:=[gc]}
theorem dz.aeS{H:Heap}{G:TG}{L:TL}{T:ao}(h:dz H G L T){H3:Heap}{v:Value}{gc:Nat}{e:Ent}(lC:H gc=none)(hle:Heap.le (rem H G.gs) (rem (ins H3 G.g e) (G.eG v gc).gs))(hs:∀q,q∈G.gs→H3 q=H q)(h3:H3 gc≠none)(he:e=⟨(G.eG v gc).cells L.w L.u T.m,9,97,true⟩):
  dz (ins H3 G.g e) (G.eG v gc) L T:=by
 have aY:∀q,q∈G.gs→q≠gc:=fun q hq e=>h.ne q hq (by rw[e];exact lC)
 have E6:G.g≠gc:=aY _ G.rb
 have p8:∀q,q∈G.gs→q≠G.g→ins H3 G.g e q=H q:=fun q hq hn=>by rw[a7 _ _ hn];exact hs q hq
 refine⟨h.n,h.uw,by show ins H3 G.g e G.g=_;rw[bo,he],?_,h.gN,?_,fun i p hp=> ?_,?_,h.plus.le lY hle,h.minus.le uq hle,h.j8.le lY hle,h.jQ.le fJ hle,fun q hq=> ?_⟩
 ·have dJ:=h.nd
  unfold TG.gs at dJ⊢
  show (G.g::([gc]++(G.bb++G.rg.map (·.1)))).Nodup
  rw[List.nodup_cons,List.nodup_append]at dJ
  have gg:∀q,q∈G.bb++G.rg.map (·.1)→q∈G.gs:=fun q hq=>List.mem_cons_of_mem _ (List.mem_append_right _ hq)
  rw[List.nodup_cons,List.nodup_append]
  refine⟨fun hm=> ?_,(by simp),dJ.2.2.1,fun a ha b hb=> ?_⟩
  ·rcases List.mem_append.1 hm with hm | hm
   ·exact E6 (List.mem_singleton.1 hm)
   ·exact dJ.1 (List.mem_append_right _ hm)
  ·rw[List.mem_singleton]at ha
   rw[ha];exact fun e=>aY b (gg b hb) e.symm
 ·obtain⟨xs,h1,h2⟩:=h.rows
  exact⟨xs,h1.le hle,h2⟩
 ·have w9:G.rg[i]? = some p:=hp
  exact(h.row i p w9).le hle (p8 _ (TG.gm w9) (fun e=>TG.z8 h.nd (.inr (.inr ⟨i,p,w9,rfl⟩)) e.symm))
 ·rcases h.basis with h1 | ⟨gb,cb,sz,h1,h2,h4⟩
  ·exact .inl h1
  ·have hm:gb∈G.bb:=by rw[h1];exact List.mem_singleton.2 rfl
   exact .inr ⟨gb,cb,sz,h1,h2,by rw[p8 _ (TG.lZ hm) (fun e=>TG.z8 h.nd (.inr (.inl hm)) e.symm)];exact h4⟩
 ·have:q=gc:=List.mem_singleton.1 hq
  rw[this,a7 _ _ (Ne.symm E6)];exact h3
theorem TG.aeT{G:TG}{v:Value}{gc q:Nat}(h:q∈(G.eG v gc).gs):q=gc∨q∈G.gs:=by
 unfold TG.gs at h
 rcases List.mem_cons.1 h with h | h
 ·exact .inr (by rw[h];exact G.rb)
 ·rcases List.mem_append.1 h with h | h
  ·exact .inl (List.mem_singleton.1 h)
  ·exact .inr (List.mem_cons_of_mem _ (List.mem_append_right _ h))
theorem aeU{H H3:Heap}{G:TG}{v:Value}{gc:Nat}{e:Ent}(lC:H gc=none)(hle:Heap.le (rem H G.gs) (rem H3 G.gs)):Heap.le (rem H G.gs) (rem (ins H3 G.g e) (G.eG v gc).gs):=fun q en hq=>by
 have hm:¬q∈G.gs:=fun hm=>by rw[rem_in hm]at hq;cases hq
 have hqc:q≠gc:=fun e=>by rw[bL hm,e,lC]at hq;cases hq
 obtain⟨e',h1,h2⟩:=hle q en hq
 refine⟨e',?_,h2⟩
 rw[bL (fun h=>by rcases TG.aeT h with h | h;exact hqc h;exact hm h),a7 _ _ (fun e=>hm (by rw[e];exact G.rb))]
 rwa [bL hm]at h1
theorem VH{H:Heap}{G:TG}{L:TL}{T:ao}{N:Nat}{v:Value}{f:Nat→Rat}(h:dz H G L T)(hv:aR bE 3 (rem H G.gs) v (aH f L.w))(hB:∀i,i<T.m→T.B i<L.w)(hN:(N:Int)≤549755813888)(hw:(L.w:Int)≤1000000)(hm:(T.m:Int)≤1000000)
 (hf:∀j,j<L.w→aG (f j)≤N) (hA:∀i,i<T.m→∀j,j≤L.w→aG (T.A i j)≤N) (hp:∀k,k≤T.m→∀j,j≤L.w→aG (gn T f k j)≤N):
 Fn Tryz.prog 49 #[.pointer (some ⟨G.g,0,none⟩),v] H (fun _ H'=>∃cv gc,H gc=none∧dz H' (G.eG cv gc) L {T with c:=gn T f T.m}∧iE H' (G.eG cv gc) L {T with c:=gn T f T.m}∧Heap.le (rem H G.gs) (rem H' (G.eG cv gc).gs)):=by
 obtain⟨Av,cv0,xv,rfl,aeV,mL,JX⟩:=hv
 rw[aW]at aeV
 rw[aW]
 have VI:=JX.len
 rw[aW]at VI
 have Oi:=h.n;refine aZ (args:=[_,_]) Tryz.func49 rfl rfl Tryz.ntmps49 rfl rfl fun w0=> ?_;refine ag [0,1] rfl ?_;refine ab ?_;refine vr 2 ?_;refine eN Tryz.underlying85 dM rfl rfl (lQ _ 90 3) (mL.le (bG _ _)) (VI) (aeQ JX aeR) (by omega) (by omega) ?_;intro v1 H1 CR;rw[List.nil_append,Nat.zero_add]at CR;obtain⟨ij,nS⟩:=CR.rem (gs:=G.gs) h.ne (fun q _ e=>by cases e);have CS:=ij.own;refine aw rfl rfl (pe) ?_;rintro v2 H2 ⟨e2,rfl⟩;rw[e2];refine dI Tryz.underlying85 dM rfl rfl rfl rfl rfl rfl rfl ?_;intro gz Fv;have Ov:¬gz∈G.gs:=fun hm=>h.ne gz hm (by rw[←nS gz hm];exact Fv)
 have jz:∀q,q∈G.gs→ins H1 gz (whole (eT [N3 0 1 none]) 90) q=H q:=fun q hq=>by rw[a7 _ _ (fun e=>Ov (by rw[←e];exact hq))];exact nS q hq
 refine eN Tryz.underlying85 dM rfl rfl (CR.own.ins _ Fv) (eZ _ _ _ _ _ _) (rfl) (by decide) (by omega) (by omega) ?_;intro v3 H3 Ow
 obtain⟨jl,Aq⟩:=Ow.rem (gs:=G.gs) (fun q hq=>by rw[jz q hq];exact h.ne q hq) (fun q hq e=>by
  rcases CR.at_ with h9 | ⟨g9,h9,jw⟩
  ·rw[h9]at e;cases e
  ·rw[h9]at e;cases e;exact h.ne _ hq jw)
 obtain⟨gc,cc,rfl,VJ,JY⟩:∃gc cc,v3 = .slice (some ⟨gc,0,none⟩) (L.w+1) cc∧H3 gc=some ⟨xv++eT [N3 0 1 none],cc*3,90,true⟩∧H gc=none:=by
  rcases Ow.own.2 with h9 | ⟨g9,c9,h9,jw,_⟩
  ·omega
  ·
   refine⟨g9,c9,h9,jw,?_⟩
   rcases Ow.at_ with iN | ⟨g11,iN,zr⟩
   ·
    rw[h9]at iN
    rcases CR.at_ with nt | ⟨g13,nt,CT⟩
    ·rw[nt]at iN;cases iN
    ·rw[nt]at iN;cases iN;exact CT
   ·
    rw[h9]at iN
    cases iN
    have yg:=(zD zr).2
    cases hh:H g9 with
    | none=>rfl
    | some en=>(obtain⟨e',VK,_⟩:=CR.le g9 en hh;rw[yg]at VK;cases VK)
 have VL:∀q,q∈G.gs→H3 q=H q:=fun q hq=>(Aq q hq).trans (jz q hq);have gV:Heap.le (rem H G.gs) (rem H3 G.gs):=(ij.le.trans (by rw[xN _ Ov];exact Heap.bI _ (by rw[bL Ov];exact Fv))).trans jl.le
 have VM:H3 G.g=some ⟨G.cells L.w L.u T.m,9,97,true⟩:=by rw[VL _ G.rb];exact h.st
 refine vr 1 ?_;refine aS ae rfl rfl rfl ?_;obtain⟨ti,aj,ak⟩:=Ek;refine ly (g:=G.g) (o:=7) (.inl rfl) rfl VM rfl (by show 7+1≤9;omega) aj ak rfl rfl rfl rfl ?_;have gK:=aeU (v:= .slice (some ⟨gc,0,none⟩) (L.w+1) cc) (e:={(⟨G.cells L.w L.u T.m,9,97,true⟩:Ent)with xs:=aI (G.cells L.w L.u T.m) 7 [.slice (some ⟨gc,0,none⟩) (L.w+1) cc]}) JY gV;have h4:=h.aeS (v:= .slice (some ⟨gc,0,none⟩) (L.w+1) cc) JY gK VL (by rw[VJ];simp) rfl;have E6:gc≠G.g:=fun e=>h.ne _ G.rb (by rw[←e];exact JY)
 have VN:ins H3 G.g {(⟨G.cells L.w L.u T.m,9,97,true⟩:Ent)with xs:=aI (G.cells L.w L.u T.m) 7 [.slice (some ⟨gc,0,none⟩) (L.w+1) cc]} gc=some ⟨xv++eT [N3 0 1 none],cc*3,90,true⟩:=by rw[a7 _ _ E6];exact VJ
 generalize ins H3 G.g {(⟨G.cells L.w L.u T.m,9,97,true⟩:Ent)with xs:=aI (G.cells L.w L.u T.m) 7 [.slice (some ⟨gc,0,none⟩) (L.w+1) cc]}=H4 at gK h4 VN
 refine aa [0,1] ?_
 have VO:bC (bE (rem H4 (G.eG (.slice (some ⟨gc,0,none⟩) (L.w+1) cc) gc).gs)) 3 (xv++eT [N3 0 1 none]) (aH (gn T f 0) (L.w+1)):=by
  rw[j6 (f:=gn T f 0) (g:=fun j=>if j=L.w then 0 else f j) (fun j _=>by unfold gn;rw[Cw,Oi];grind),←aeP];exact(JX.mono fun vs a=>fJ _ _ vs a gK).append (pb (pd _ (n:=0) (by decide) (by decide)) rfl)
 obtain⟨G',Aw⟩:∃G',G'=G.eG (.slice (some ⟨gc,0,none⟩) (L.w+1) cc) gc:=⟨_,rfl⟩;rw[←Aw]at gK h4 VO
 have Az:G'.g=G.g:=by rw[Aw];rfl
 have nV:iE H4 G' L {T with c:=gn T f 0}:=⟨gc,cc,by rw[Aw];rfl,by rw[Aw];rfl,_,_,VN,VO⟩;have h4':dz H4 G' L {T with c:=gn T f 0}:=h4.congr rfl rfl (fun _ _ _ _=>rfl) (fun _ _=>rfl);obtain⟨Ab,cb,cY,_⟩:=h4.self.bv
 have kL:cell H4 ((⟨G.g,0,none⟩:Addr).add 8)=some (.slice Ab T.m cb):=by rw[←cY,←Az];exact h4.cell rfl
 refine ab ?_;refine vr 2 ?_;refine aS ae rfl rfl rfl ?_;refine aN ae rfl rfl rfl (kL) ?_;refine vr 2 ?_;refine aa [0,1,17,18,19] ?_;refine aC ?_;refine fZ (fun(k:Nat)=>T.m-k) (fun(k:Nat)=>put (put (put (put (put (emp) 0 (.val (.pointer (some ⟨G.g,0,none⟩)))) 1 (.val (.slice Av L.w cv0))) 17 (.val (.slice Ab T.m cb))) 18 (.val (.int .i64 (T.m:Int)))) 19 (.val (.int .i64 (k:Int)))) (fun(k:Nat) H'=>dz H' G' L {T with c:=gn T f k}∧iE H' G' L {T with c:=gn T f k}∧Heap.le (rem H G.gs) (rem H' G'.gs)∧k≤T.m) 0 (⟨h4',nV,gK,Nat.zero_le _⟩) an ?_;rintro k H5 ⟨h5,mK,gU,j7⟩;obtain⟨A2,c2,Fl,ED⟩:=h5.self.bv;rw[cY]at Fl
 obtain⟨rfl,-,rfl⟩:Ab=A2∧T.m=T.m∧cb=c2:=by simpa using Fl
 refine ab ?_;refine vr 1 ?_;refine aa [0,1,17,18,19,20] ?_;refine al ?_;refine aB rfl (fun hb=> ?_) (fun hb=> ?_)
 ·
  have kZ:k<T.m:=by simpa using hb
  have VP:=hB k kZ;obtain⟨pk,qc⟩:=h5.get (i:=k) kZ;obtain⟨vs0,_,jm,jN⟩:=JX.get (di VP);obtain⟨n1,d1,b1,rfl⟩:=jm.cells;obtain⟨gc',cc',aki,akj,akk⟩:=id mK
  have kK:cell H5 ((⟨G.g,0,none⟩:Addr).add 7)=some G'.cv:=by rw[←Az];exact h5.cell rfl
  refine au ?_;refine ag [0,1,17,18,19] rfl ?_;refine al ?_;refine aC ?_;refine ab ?_;refine vr 1 ?_;refine aM ae rfl rfl rfl rfl rfl (ED) (by rw[Int.toNat_natCast];exact gj (B:=T.B) kZ) (by omega) (by omega) fun _=> ?_;refine vr 2 ?_;refine aa [0,1,4,5,17,18,19] ?_;refine dZ .tD [0,1,2,3,4,5,6,7,8,9,10] follows (by kernel_rfl) ?_;refine vr 3 ?_;refine aS ae rfl rfl rfl ?_;refine aN ae rfl rfl rfl (kK) ?_;refine vr 3 ?_;refine bR (vs:=[.int .i64 n1,.int .i64 d1,.pointer b1]) ae rfl rfl rfl rfl ((mL.le gU).le (bG _ _)) rfl (by decide) (by rw[Int.toNat_natCast];exact jN) (by omega) (by omega) fun _=> ?_;refine Ud rfl rfl (by rw[←Az];exact Vd (N:=N) h5 mK qc (jm.le gU) hN hw (hf _ VP) (fun j hj=>hp k (by omega) j hj) (fun j hj=>hA k kZ j hj)) ?_;rintro v6 H6 ⟨h6,qd,mI⟩;refine aq ?_;refine ag [0,1,17,18,19] rfl ?_;refine av rfl ?_;refine aD rfl rfl ⟨by omega,by omega⟩ ?_;refine vr 1 ?_;refine aq ?_;exact⟨k+1,by omega,an,h6.congr rfl rfl (fun _ _ _ _=>rfl) (fun _ _=>rfl),qd.congr (fun j _=>aeO T f k j),gU.trans mI,by omega⟩
 ·
  have hb:T.m≤k:=by simpa using hb
  obtain rfl:k=T.m:=by omega
  refine aU ?_;refine⟨.inl rfl,_,.nil,?_⟩;exact⟨_,gc,JY,by rw[←Aw];exact h5,by rw[←Aw];exact mK,by rw[←Aw];exact gU⟩
end Go.ar
namespace Go.ar
open Go
section
variable {P:Program} {n:Nat} {tb:Tb} {all:Array Oper} {s:St} {H:Heap} {md:Mode} {K:St→Heap→Prop} {r:List Oper} {dst:Option Nat} {ty:TypeId} {pos:String} {after:Array Edge} {gd:Option (Nat×Bool)} {kc:Addr→Option Value}
theorem CU{op:Op}(v:Value)(hm:qG op=false)(hc:(Mode.cG kc).fy H)(hg:ca all s gd=some true)(nb:ja s dst=true)
  (h:∀a w,gf n s a→(∀ad u,kc ad=some u→w.cell? ad=some u)→(execOp a.eval ⟨dst,op,ty,pos,after,gd⟩).run P w = .ok (.value v) w) (k:aP P n all (.cG kc) r (bn s dst (.val v)) H K):aP P n all (.cG kc) (⟨dst,op,ty,pos,after,gd⟩::r) s H K:=
 .lN v rfl hm nb hc (fun a w ha hd=> .inl ⟨jZ ha (ln (o:=⟨dst,op,ty,pos,after,gd⟩) hg),h a w ha hd⟩) k
theorem eh{x:Operand}{v:Value}(hc:(Mode.cG kc).fy H)(hx:ev s x=some v)(hk:aP P n all (.cG kc) r (bn s dst (.val v)) H K)(hg:ca all s gd=some true:=by rfl)(nb:ja s dst=true:=by rfl):aP P n all (.cG kc) (⟨dst,.move x,ty,pos,after,gd⟩::r) s H K:=
 CU v rfl hc hg nb (fun a w ha _=>by simp[execOp,bO ha hx]) hk
theorem lD{x:Operand}{ad:Addr}(hc:(Mode.cG kc).fy H)(hx:ev s x=some (.pointer (some ad)))(hk:aP P n all (.cG kc) r (bn s dst (.val (.pointer (some ad)))) H K)(hg:ca all s gd=some true:=by rfl)(nb:ja s dst=true:=by rfl):aP P n all (.cG kc) (⟨dst,.nilCheck x,ty,pos,after,gd⟩::r) s H K:=
 CU _ rfl hc hg nb (fun a w ha _=>by simp[execOp,bO ha hx]) hk
theorem lE{t:TypeId}{x:Operand}{f:Nat}{ad:Addr}{m o z:Nat}{ps:List (Nat×Nat)}(hc:(Mode.cG kc).fy H)(cZ:jK P tb)(ht:tb[t]? = some (.st m ps))(hf:ps[f]? = some (o,z))(hx:ev s x=some (.pointer (some ad)))
  (hk:aP P n all (.cG kc) r (bn s dst (.val (.pointer (some (ad.add o))))) H K) (hg:ca all s gd=some true:=by rfl) (nb:ja s dst=true:=by rfl):aP P n all (.cG kc) (⟨dst,.fieldAddr t x f,ty,pos,after,gd⟩::r) s H K:=
 CU _ rfl hc hg nb (fun a w ha _=>by
  obtain⟨fs,ii,hu,h2,h3,_,h4⟩:=cZ t _ ht
  obtain⟨fd,jj,h5,h6,h7,h9,jw⟩:=h4 f _ hf
  have h8:jj.size≠0:=by rw[h9];exact jw
  simp only at h6
  simp[execOp,bO ha hx,Instr.fieldAt,run_underlying hu,h5,Instr.sureAddr,Iy h7 h8,h6]) hk
theorem jR{t:TypeId}{x:Operand}{ad:Addr}{ti:Ti}{v:Value}(hc:(Mode.cG kc).fy H)(cZ:jK P tb)(ht:tb[t]? = some ti)(h1:wS ti=true)(hx:ev s x=some (.pointer (some ad)))(hv:kc ad=some v)
  (hk:aP P n all (.cG kc) r (bn s dst (.val v)) H K) (hg:ca all s gd=some true:=by rfl) (nb:ja s dst=true:=by rfl):aP P n all (.cG kc) (⟨dst,.load t x,ty,pos,after,gd⟩::r) s H K:=
 CU _ rfl hc hg nb (fun a w ha hd=>by simp[execOp,bO ha hx,Instr.loadAt,Instr.sureAddr,Mu (cZ t _ ht) h1 (hd ad v hv)]) hk
theorem CV{f:Operand}{kB:FuncId}{cap args:List Value}{xs:List Operand}{ts:Array TypeId}{bx:Value→Heap→Prop}(hf:ev s f=some (.func (.func kB) #[] cap.toArray))(hx:pU s xs=some args)
  (h:Fn P kB (args++cap).toArray H bx) (hm:∀v H',bx v H'→(Mode.cG kc).fy H') (hk:∀v H',bx v H'→aP P n all (.cG kc) r (bn s dst (.val v)) H' K) (hg:ca all s gd=some true:=by rfl) (nb:ja s dst=true:=by rfl):aP P n all (.cG kc) (⟨dst,.call ⟨.value f,xs.toArray,ts⟩,ty,pos,after,gd⟩::r) s H K:=
 .mg bx rfl (.inl Eb) nb (Ea (cap:=cap) hf hx hg h) (.inr hm) fun v H' hp _=>hk v H' hp
theorem CW{t e bytes:Nat}{x:Operand}{z v:Value}(ht:P.underlying t=some (.slice e))(he:gw P e 1 z bytes)(hx:ev s x=some v)(hv:v.cells = #[v])
  (hk:∀g,H g=none→aP P n all (.cG kc) r (bn s dst (.val (.slice (some ⟨g,0,none⟩) 1 1))) (ins H g (whole [v] e)) K) (hg:ca all s gd=some true:=by rfl) (nb:ja s dst=true:=by rfl):
  aP P n all (.cG kc) (⟨dst,.buildSlice t 1 #[(0,x)],ty,pos,after,gd⟩::r) s H K:=
 .nG (fun g=> .slice (some ⟨g,0,none⟩) 1 1) [v] e rfl rfl nb (fun a w ha=>by
  refine⟨jZ ha (ln (o:=⟨dst,.buildSlice t 1 #[(0,x)],ty,pos,after,gd⟩) hg),?_⟩
  obtain⟨i,hi,hz,cO,_,pV,_⟩:=he
  have pS:v.cells.size=1:=by rw[hv];rfl
  have zq:Instr.fill (fun k=>some (k*i.size,i.size)) (madeCells z.cells (1*i.size)) [(0,v)]=some #[v]:=by
   have h1:=S6 (sz:=1) [v] 0 [] (madeCells z.cells 1).toList (fun u hu=>by rw[List.mem_singleton]at hu;rw[hu];exact pS) rfl (by simp[size_madeCells])
   simp only[List.nil_append,Array.toArray_toList,List.length_singleton]at h1
   have e1:eT [v] = [v]:=by simp[eT,hv]
   rw[e1]at h1
   rw[cO]
   simpa [List.range']using h1
  have:=S7 (P:=P) (w:=w) (t:=t) (e:=e) (len:=1) (i:=i) (z:=z) (parts:= #[(0,v)]) (cells:= #[v]) ht hi hz (by rw[cO];decide) (by rw[cO];decide) zq
  simp only[execOp,List.map_toArray,List.map_cons,List.map_nil,bO ha hx,Sem.run_bind,this,Result.andThen_ok,Sem.run_pure]) fun g hg _=>hk g hg
theorem CX{t e sz bytes:Nat}{x y:Operand}{z v:Value}{m k c:Nat}{A:Option Addr}{xs news:List Value}(ht:P.underlying t=some (.slice e))(he:gw P e sz z bytes)(hx:ev s x=some v)(hy:ev s y=some (.slice A k c))(ho:bP H v e sz m xs)
  (hr:Rd H A news) (hl:news.length=k*sz) (h1:∀u∈news,u.oneCell'=true) (hb:(m+k)*bytes≤140737488355328) (tJ:m+k≤9223372036854775807) (hc:(Mode.cG kc).fy H)
  (hk:∀v' H',App H v e sz (m+k) (xs++news) v' H'→aP P n all (.cG kc) r (bn s dst (.val v')) H' K) (hg:ca all s gd=some true:=by rfl) (nb:ja s dst=true:=by rfl):aP P n all (.cG kc) (⟨dst,.call ⟨.builtin .append,#[x,y],#[t,t]⟩,ty,pos,after,gd⟩::r) s H K:=
 .mg (fun v' H'=>App H v e sz (m+k) (xs++news) v' H') rfl (.inl (by simp[kd,Ii])) nb (fun a w ha hd=>by
  refine⟨jZ ha (ln (o:=⟨dst,.call ⟨.builtin .append,#[x,y],#[t,t]⟩,ty,pos,after,gd⟩) hg),?_⟩
  obtain⟨v',w',H',h2,h3,h4,h5⟩:=S3 (P:=P) (c:=c) hd ht he ho hr hl h1 hb tJ ty
  have hex:(execOp a.eval ⟨dst,.call ⟨.builtin .append,#[x,y],#[t,t]⟩,ty,pos,after,gd⟩).run P w = .ok (.value v') w':=by
   simp[execOp,resolve,invoke,builtin,bO ha hx,bO ha hy,h2]
  unfold lk
  rw[hex]
  exact⟨H',h3,h4,h5⟩) (.inr fun v' H' ha ad u hu=>cF ha.le (hc ad u hu)) fun v' H' ha _=>hk v' H' ha
theorem aeW{t:TypeId}{x y:Operand}{g o sz:Nat}{ent:Ent}{v:Value}{vs:List Value}{ii:TypeInfo}(hx:ev s x=some (.pointer (some ⟨g,o,none⟩)))(hg:H g=some ent)(cn:ent.own=true)(gg:o+sz≤ent.xs.length)
  (vn:P.info? t=some ii) (cO:ii.size=sz) (hy:ev s y=some v) (hv:v.cells=vs.toArray) (jL:vs.length=sz) (h1:vs.all wW=true) (qO:ca all s gd=some true):
  EV P n all ⟨none,.store t x y,ty,pos,after,gd⟩ s H (fun _ H'=>H'=ins H g {ent with xs:=aI ent.xs o vs}):=fun a w ha hd=>by
 refine⟨jZ ha (ln (o:=⟨none,.store t x y,ty,pos,after,gd⟩) qO),?_⟩
 obtain⟨ob,h2,cur,fz,rfl,h3,h4,h5⟩:=hd g ent hg
 have qN:=h5 cn
 subst qN
 have Ee:cur=cur.toList.toArray:=by simp
 have hlen:ent.xs.length≤cur.toList.length:=by
  rcases Nat.eq_zero_or_pos ent.xs.length with h | h
  ·omega
  ·have hx:=h4 (ent.xs.length-1) _ (List.getElem?_eq_getElem (by omega))
   have:=(Array.getElem?_eq_some_iff.1 hx).1
   simp;omega
 rw[Ee]at h2
 obtain⟨w',h6,h7,h8,h9,jw,iN,zr⟩:=IA (P:=P) vs cur.toList w o 0 h2 (fun u hu=>List.all_eq_true.1 h1 u hu) (by omega)
 have hex:(execOp a.eval ⟨none,.store t x y,ty,pos,after,gd⟩).run P w = .ok .skip w':=by
  simp[execOp,bO ha hx,bO ha hy,Instr.storeAt,Instr.sureAddr,storeVar,sizeOf,typeInfo,vn,cO,hv,jL,h6]
 unfold lk
 rw[hex]
 refine⟨_,rfl,B5 (o:= .cells (aI cur.toList (o+0) vs).toArray ent.elem (0,0)) hd h7 h8 h9 (by omega) (fun q _ hq=>iN q hq) zr ⟨_,(0,0),rfl,?_,?_,fun _=>rfl⟩ (.inl ⟨_,hg,cn,cn,rfl,rfl⟩)⟩
 ·simp[D8,h3]
 ·intro q u hq
  have:=Ue vs ent.xs cur.toList o (fun i w hw=>by have:=h4 i w hw;simpa using this) (by omega) q u hq
  simpa using this
theorem AA{t:TypeId}{x y:Operand}{g o sz:Nat}{ent:Ent}{v:Value}{vs:List Value}{ii:TypeInfo}(hx:ev s x=some (.pointer (some ⟨g,o,none⟩)))(hg:H g=some ent)(cn:ent.own=true)(gg:o+sz≤ent.xs.length)
  (vn:P.info? t=some ii) (cO:ii.size=sz) (hy:ev s y=some v) (hv:v.cells=vs.toArray) (jL:vs.length=sz) (h1:vs.all wW=true)
  (hk:aP P n all (.cG kc) r s (ins H g {ent with xs:=aI ent.xs o vs}) K) (qO:ca all s gd=some true:=by rfl):aP P n all (.cG kc) (⟨none,.store t x y,ty,pos,after,gd⟩::r) s H K:=
 .mg _ rfl (.inr rfl) rfl (aeW hx hg cn gg vn cO hy hv jL h1 qO) (.inl rfl) fun _ H' hH _=>by rw[hH];exact hk
theorem aeX{f:FuncId}{xs:List Operand}{cap:List Value}(hx:pU s xs=some cap)(hk:aP P n all md r (bn s dst (.val (.func (.func f) #[] cap.toArray))) H K)(hg:ca all s gd=some true:=by rfl)(nb:md.nb s dst=true:=by rfl):
  aP P n all md (⟨dst,.makeFunc (.func f) #[] xs.toArray,ty,pos,after,gd⟩::r) s H K:=
 jf _ rfl hg nb (fun a w ha _=>by simp[execOp,My ha xs cap hx,Instr.makeFunc]) hk
end
end Go.ar
namespace Go.ar
open Go.Proofs Num Lp
def jS(L:TL)(a:Nat→Rat)(sg:Rat):Nat→Nat→Rat
 | 0=>fun _=>0
 | k+1=>if 0≤L.mZ k then bQ (bQ (jS L a sg k) (L.pF k) (a k*sg)) (L.mZ k).toNat (-(a k*sg))else bQ (jS L a sg k) (L.pF k) (a k*sg)
def rp(f:Nat→Rat)(rel slack:Int)(sg:Rat):Nat→Rat:=if rel=1 then bQ f slack.toNat sg else if rel=3 then bQ f slack.toNat (-sg)else f
def JZ(L:TL)(n:Nat)(a:Nat→Rat)(b:Rat)(rel slack:Int)(unit:Nat)(sg:Rat):Nat→Rat:=
 bQ (bQ (rp (jS L a sg n) rel slack sg) unit 1) L.w (b*sg)
def eV(N:Nat)(H:Heap)(vs:List Value)(r:List Rat×Int×Rat):Prop:=
 ∃c f u w,vs = [c,.int .i64 r.2.1,.bool f,u,w]∧aR (ck N) 3 H c r.1∧cH H (.agg #[.bool f,u,w]) r.2.2 N
theorem uy(N:Nat):Up (eV N):=fun H H' vs r hl ⟨c,f,u,w,h1,h2,h3⟩=>⟨c,f,u,w,h1,h2.le (ik N) hl,h3.le hl⟩
theorem eV.cells{N:Nat}{H:Heap}{vs:List Value}{r:List Rat×Int×Rat}(h:eV N H vs r):∃A c k f A1 m1 c1 A2 m2 c2,vs = [.slice A k c,.int .i64 r.2.1,.bool f,.slice A1 m1 c1,.slice A2 m2 c2]∧k=r.1.length:=by
 obtain⟨c,f,u,w,h1,⟨A,cc,xs,rfl,_⟩,h3⟩:=h
 obtain⟨f',u',w',l1,l2,e,⟨A1,c1,rfl,_,_⟩,⟨A2,c2,rfl,_,_⟩,_⟩:=h3
 have:=uh (vs:=[.bool f,u,w]) e
 simp only[List.cons.injEq,Value.bool.injEq,and_true]at this
 obtain⟨_,rfl,rfl⟩:=this
 exact⟨A,cc,_,f,A1,_,c1,A2,_,c2,h1,rfl⟩
theorem CY{H:Heap}{gv g w:Nat}{ts:List Value}(hv:cell H ⟨gv,0,none⟩=some (.pointer (some ⟨g,0,none⟩)))(hg:H g=some ⟨.int .i64 (w:Int)::ts,9,97,true⟩)(aY:gv≠g)(hw:(w:Int)≤1000000):
 Fn Tryz.prog 122 #[.pointer (some ⟨gv,0,none⟩)] H (fun v H'=>v = .int .i64 (w:Int)∧H'=ins H g ⟨.int .i64 ((w+1:Nat):Int)::ts,9,97,true⟩):=by
 have mD:cell H ((⟨g,0,none⟩:Addr))=some (.int .i64 (w:Int)):=by simp[cell,hg]
 have B8:∀e,cell (ins H g e) ⟨gv,0,none⟩=some (.pointer (some ⟨g,0,none⟩)):=fun e=>by
  simp only[cell,a7 _ _ aY]at hv⊢;exact hv
 refine aZ (args:=[_]) Tryz.func122 rfl rfl Tryz.ntmps122 rfl rfl fun w0=> ?_;refine ag [0] rfl ?_;refine ab ?_;refine vr 1 ?_;refine aa [0] ?_;refine ab ?_;refine aN ae rfl rfl rfl (hv) ?_;refine vr 1 ?_;refine aS ae rfl rfl rfl ?_;refine aN ae rfl rfl rfl (mD) ?_;refine aD rfl rfl ⟨by omega,by omega⟩ ?_;refine vr 1 ?_;refine aS ae rfl rfl rfl ?_;obtain⟨ti,aj,ak⟩:=qP;refine ly (g:=g) (o:=0) (.inl rfl) rfl hg rfl (by show 0+1≤(Value.int .i64 (w:Int)::ts).length;simp) aj ak rfl rfl rfl rfl ?_;rw[show ({(⟨.int .i64 (w:Int)::ts,9,97,true⟩:Ent)with xs:=aI (.int .i64 (w:Int)::ts) 0 [.int .i64 ((w:Int)+1)]}:Ent)=⟨.int .i64 ((w+1:Nat):Int)::ts,9,97,true⟩from rfl];refine aa [0] ?_;refine ab ?_;refine aN ae rfl rfl rfl (B8 _) ?_;refine vr 1 ?_;refine aS ae rfl rfl rfl ?_;refine aN ae rfl rfl rfl (show cell (ins H g ⟨.int .i64 ((w+1:Nat):Int)::ts,9,97,true⟩) ⟨g,0,none⟩=some (.int .i64 ((w+1:Nat):Int))from by simp[cell,ins]) ?_;refine cP rfl rfl ⟨by omega,by omega⟩ ?_;refine vr 1 ?_;refine aa [1] ?_;refine az ⟨.inr rfl,_,.tmp rfl (.nil),?_⟩;refine⟨?_,rfl⟩
 show Value.int .i64 (((w+1:Nat):Int)-1)=_
 rw[show (((w+1:Nat):Int)-1)=(w:Int) by omega]
end Go.ar
