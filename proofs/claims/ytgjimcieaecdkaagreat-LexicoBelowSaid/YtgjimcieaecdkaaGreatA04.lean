/- Part 4 of the proof: Num1, Lp, Sx, Sy, Prg, Num2. -/
import Derived.Test.YtgjimcieaecdkaaGreatA03
set_option linter.unusedVariables false
namespace Go.ar
open Go.Proofs Num
theorem mK:Tryz.prog.underlying 59=some (.pointer (Tryz.prog.pointee 59)):=by
 unfold Program.pointee;rw[Tryz.underlying59]
theorem oN{H:Heap}{g:Nat}{xs:List Value}{e i:Nat}{v:Value}(h:xs[i]? = some v):cell (ins H g (whole xs e)) ((⟨g,0,none⟩:Addr).add i)=some v:=by
 simp[cell,jd,ins,whole,h]
theorem DX{H:Heap}{g:Nat}{x:Value}{xs:List Value}{e:Nat}:cell (ins H g (whole (x::xs) e)) ⟨g,0,none⟩=some x:=by
 simp[cell,ins,whole]
theorem DY{H:Heap}{ad:Addr}{a b c:Value}(h0:cell H ad=some a)(h1:cell H (ad.add 1)=some b)(h2:cell H (ad.add 2)=some c):∀(i:Nat)(v:Value),[a,b,c][i]? = some v→cell H (ad.add i)=some v:=by
 intro i v hv
 match i with
 | 0=>simp only[List.getElem?_cons_zero,Option.some.injEq]at hv;subst hv;simpa [Addr.add]using h0
 | 1=>simp only[List.getElem?_cons_succ,List.getElem?_cons_zero,Option.some.injEq]at hv;subst hv;exact h1
 | 2=>simp only[List.getElem?_cons_succ,List.getElem?_cons_zero,Option.some.injEq]at hv;subst hv;exact h2
 | n+3=>simp at hv
theorem uZ{a b:Int}(h1: -2147483647≤a)(h2:a≤2147483647)(h3: -2147483647≤b)(h4:b≤2147483647): -4611686014132420609≤a*b∧a*b≤4611686014132420609:=by
 have h5:(a*b).natAbs≤2147483647*2147483647:=by rw[Int.natAbs_mul];exact Nat.mul_le_mul (by omega) (by omega)
 omega
theorem pW(p:Rat):(p.num:Rat)/((p.den:Int):Rat)=p:=by
 have:=Rat.mkRat_self p
 rwa [Rat.mkRat_eq_div]at this
theorem xi(p:Rat):((p.den:Int):Rat)≠0:=fun e=>p.den_nz (by exact_mod_cast e)
theorem den_pos(p:Rat):0<p.den:=Nat.pos_of_ne_zero p.den_nz
theorem lowest{n d:Int}(hd:0<d):(((n:Rat)/(d:Rat)).num=n.tdiv (Nat.gcd n.natAbs d.natAbs:Nat))∧((n:Rat)/(d:Rat)).den=d.natAbs/Nat.gcd n.natAbs d.natAbs:=by
 have h0:decide (d<0)=false:=decide_eq_false (by omega)
 have jO:0<d.natAbs:=by omega
 have e:=MW n d
 rw[h0]at e
 rw[←e,sL jO,HD jO]
 refine⟨?_,rfl⟩
 have hg:(Nat.gcd n.natAbs d.natAbs)∣n.natAbs:=Nat.gcd_dvd_left _ _
 by_cases hn:n<0
 ·rw[show (decide (n<0) != false)=true by simp[hn]]
  have e2:n = -(n.natAbs:Int):=by omega
  conv=>rhs;rw[e2,Int.neg_tdiv]
  simp[sg,Int.tdiv_eq_ediv_of_nonneg]
 ·rw[show (decide (n<0) != false)=false by simp[hn]]
  have e2:n=(n.natAbs:Int):=by omega
  conv=>rhs;rw[e2]
  simp[sg,Int.tdiv_eq_ediv_of_nonneg]
theorem Wa{n:Int}{g:Nat}(h1: -9223372036854775807≤n)(h2:n≤9223372036854775807): -9223372036854775807≤n.tdiv g∧n.tdiv g≤9223372036854775807:=by
 have:(n.tdiv g).natAbs≤n.natAbs:=by
  rw[Int.natAbs_tdiv];exact Nat.div_le_self _ _
 omega
abbrev N3(n d:Int)(b:Option Addr):Value:= .agg #[.int .i64 n,.int .i64 d,.pointer b]
theorem oO(H:Heap){n:Int}(h1: -9223372036854775807≤n)(h2:n≤9223372036854775807):aZ H [.int .i64 n,.int .i64 1,.pointer none] (n:Rat):=
 ⟨_,_,_,rfl,.inl ⟨rfl,by simp,by simp,h1,h2,by decide⟩⟩
theorem oP{H:Heap}{n:Int}:
 Fn Tryz.prog 49 #[.int .i64 n] H (nH H (N3 n 1 none)):=by
 refine aW (args:=[_]) Tryz.func49 rfl rfl Tryz.ntmps49 rfl rfl fun w0=> ?_;refine aj [0] rfl ?_;refine af (bD dd rfl (ae [0,2] ?_));refine af (ab 1 rfl (dH ag rfl dd rfl rfl ?_));obtain⟨ti,ak,al⟩:=bI;refine aM (.inl ⟨rfl,rfl⟩) rfl rfl rfl ak al rfl rfl rfl (ae [2] ?_);obtain⟨bO,aI,aJ⟩:=bI;refine aw ⟨.inr rfl,_,.agg rfl Tryz.underlying61 aI aJ (.nil),?_⟩;exact⟨rfl,rfl⟩
theorem Ni{H:Heap}{u:Value}{l:List Nat}(hu:fI H u l)(hl:Lt l)(h2:l.length≤2):
 Fn Tryz.prog 96 #[u] H (nH H (.int .i64 (val l:Nat))):=by
 obtain⟨A,c,rfl,hc,hr⟩:=hu;refine aW (args:=[_]) Tryz.func96 rfl rfl Tryz.ntmps96 rfl rfl fun w0=> ?_;refine aj [0] rfl ?_;refine af (ab 1 rfl (ae [0] ?_));refine af (ab 1 rfl (ae [0,3] ?_));refine aq (af (ab 2 rfl (di rfl rfl ⟨by omega,by omega⟩ (ab 1 rfl (ae [0,3,4] ?_)))));refine aD (gj (fun(k:Nat)=>k) (fun(k:Nat)=>put (put (put (emp) 0 (.val (.slice A l.length c))) 3 (.val (.int .i64 (val (l.drop k):Nat)))) 4 (.val (.int .i64 ((k:Int)-1)))) (fun(k:Nat) H'=>H'=H∧k≤l.length) l.length (⟨rfl,Nat.le_refl _⟩) (by simp only[List.drop_length];repeat (first | exact iZ _ | refine dM rfl ?_ | refine dM (jA (by first | omega | (simp[val];done))) ?_)) ?_);rintro k H1 ⟨rfl,hk⟩;refine aq (af (ab 2 rfl (ae [0,3,4,9] ?_)));refine az rfl (fun hb=> ?_) (fun hb=> ?_)
 ·
  have hb:0<k:=by simp at hb;omega
  obtain⟨x,hx⟩:∃x,l[k-1]? = some x:=⟨_,List.getElem?_eq_getElem (by omega)⟩;have Wb:=hl.get hx
  have jC:val (l.drop (k-1))=x+B*val (l.drop k):=by
   obtain⟨ic,e⟩:=List.getElem?_eq_some_iff.1 hx;rw[List.drop_eq_getElem_cons ic,e,fH,show k-1+1=k by omega]
  have Wc:=pJ (hl.drop k);have Wd:B^(l.drop k).length≤B^1:=Nat.pow_le_pow_right jT (by rw[List.length_drop];omega)
  have acT:val (l.drop k)<1000000000:=by
   have:=Nat.lt_of_lt_of_le Wc Wd
   rwa [Nat.pow_one,bG]at this
  rw[bG]at Wb jC;refine ax (aj [0,3,4] rfl ?_);refine aq (aD (aF rfl (ab 1 rfl (gG rfl rfl ⟨by omega,by omega⟩ (ab 2 rfl (a9 ag rfl rfl rfl rfl rfl (hr) (by rw[show ((k:Int)-1).toNat=k-1 by omega];exact cH hx) (by omega) (by omega) fun _=> ?_))))));refine cF ag rfl rfl rfl ⟨by omega,by omega⟩ (aO rfl rfl ⟨by omega,by omega⟩ (ab 1 rfl (aA (aj [0,3,4] rfl ?_))));refine aF rfl (ab 1 rfl (di rfl rfl ⟨by omega,by omega⟩ (ab 1 rfl (aA ?_))));exact⟨k-1,by omega,(by rw[jC];repeat (first | exact iZ _ | refine dM rfl ?_ | refine dM (jA (by omega)) ?_)),rfl,by omega⟩
 ·
  have hb:k=0:=by simp at hb;omega
  subst hb;refine bC (aj [3] rfl ?_);refine af (ab 2 rfl (ae [2] ?_));refine aw ⟨.inr rfl,_,.tmp rfl (.nil),?_⟩;exact⟨rfl,rfl⟩
theorem sS{H:Heap}{v:Value}{q:Rat}(hv:dI H v q):
 Fn Tryz.prog 66 #[v] H (nJ H q):=by
 obtain⟨u,w,rfl,hu,hw⟩:=id hv
 have DZ:=hv
 unfold dI at DZ
 obtain⟨f,hf⟩:∃f,f=decide (q.num<0):=⟨_,rfl⟩
 rw[←hf]at hv
 rw[←hf]
 obtain⟨A,c,rfl,hc,hr⟩:=id hu
 obtain⟨A',c',rfl,gF,cM⟩:=id hw;refine aW (args:=[_]) Tryz.func66 rfl rfl Tryz.ntmps66 rfl rfl fun w0=> ?_;refine aj [0] rfl ?_;refine af (L8 rfl rfl ?_);intro g hg;have hle:=Heap.a0 (whole [.bool f,.slice A (ah q.num.natAbs).length c,.slice A' (ah q.den).length c'] 29) hg;refine bD dd rfl (ae [1,2] ?_);refine aq ?_
 by_cases h2:2<(ah q.num.natAbs).length
 ·
  skip
  refine af (a4 ag rfl rfl rfl (aQ ag rfl rfl rfl (oN rfl) (ab 1 rfl (aS true rfl rfl (pO (by omega)) (ab 6 rfl (ae [1,2,13] ?_))))));refine eL rfl (af (dH ag rfl dd rfl rfl ?_));obtain⟨ti,ak,al⟩:=bI;refine aM (.inl ⟨rfl,rfl⟩) rfl rfl rfl ak al rfl rfl rfl (ae [2] ?_);obtain⟨bO,aI,aJ⟩:=bI;refine aw ⟨.inr rfl,_,.agg rfl Tryz.underlying61 aI aJ (.nil),?_⟩;exact⟨hle,_,rfl,0,0,some ⟨g,0,none⟩,rfl,.inr ⟨_,f,_,_,rfl,hv.le hle,DX,oN rfl,oN rfl⟩⟩
 ·
  skip
  by_cases h3:2<(ah q.den).length
  ·
   skip
   refine af (a4 ag rfl rfl rfl (aQ ag rfl rfl rfl (oN rfl) (ab 1 rfl (aS false rfl rfl (lO (by omega)) (ab 1 rfl (a4 ag rfl rfl rfl (aQ ag rfl rfl rfl (oN rfl) (ab 1 rfl (aS true rfl rfl (pO (by omega)) (ab 1 rfl (ae [1,2,13] ?_)))))))))));refine eL rfl (af (dH ag rfl dd rfl rfl ?_));obtain⟨ti,ak,al⟩:=bI;refine aM (.inl ⟨rfl,rfl⟩) rfl rfl rfl ak al rfl rfl rfl (ae [2] ?_);obtain⟨bO,aI,aJ⟩:=bI;refine aw ⟨.inr rfl,_,.agg rfl Tryz.underlying61 aI aJ (.nil),?_⟩;exact⟨hle,_,rfl,0,0,some ⟨g,0,none⟩,rfl,.inr ⟨_,f,_,_,rfl,hv.le hle,DX,oN rfl,oN rfl⟩⟩
  skip
  refine af (a4 ag rfl rfl rfl (aQ ag rfl rfl rfl (oN rfl) (ab 1 rfl (aS false rfl rfl (lO (by omega)) (ab 1 rfl (a4 ag rfl rfl rfl (aQ ag rfl rfl rfl (oN rfl) (ab 1 rfl (aS false rfl rfl (lO (by omega)) (ab 1 rfl (ae [1,2,13] ?_)))))))))));refine dG rfl (ax (aj [1,2] rfl ?_));have D3:=gm.1 (show (ah q.num.natAbs).length≤2 by omega);have ot:=gm.1 (show (ah q.den).length≤2 by omega);rw[bG]at D3 ot;refine cg .bR [0,1,3,4,2,5,6,7,8] follows (by kernel_rfl) ?_;refine a4 ag rfl rfl rfl (aQ ag rfl rfl rfl (oN rfl) (a4 ag rfl rfl rfl (aQ ag rfl rfl rfl (oN rfl) (aT rfl rfl (Ni (hu.le hle) (dU _).lt (by omega)) (fun _ _ h=>h.le) ?_))));rintro v1 H1 ⟨e1,rfl⟩;rw[e1,ck];refine aT rfl rfl (Ni (hw.le hle) (dU _).lt (by omega)) (fun _ _ h=>h.le) ?_;rintro v1 H1 ⟨e1,rfl⟩;rw[e1,ck];refine dH ag rfl dd rfl rfl (bD dd rfl ?_);obtain⟨ti,ak,al⟩:=bI;refine aM (.inl ⟨rfl,rfl⟩) rfl rfl rfl ak al rfl rfl rfl (ae [1,2,3] ?_);refine aq (af (a4 ag rfl rfl rfl ?_))
  refine aQ ag rfl rfl rfl (DX) (ae [2,3,23] ?_);refine az rfl (fun hb=> ?_) (fun hb=> ?_)
  ·
   have hq:q.num<0:=by rw[hf]at hb;simpa using hb
   refine aF rfl (ab 2 rfl (wF rfl ⟨by omega,by omega⟩ (vr 1 ?_)));obtain⟨ti,ak,al⟩:=oE;refine aM (.inr rfl) rfl rfl rfl ak al rfl rfl rfl (aA (aj [2,3] rfl ?_));refine af (vr 1 ?_);obtain⟨ti,ak,al⟩:=bI;refine aM (.inl ⟨rfl,rfl⟩) rfl rfl rfl ak al rfl rfl rfl (ae [2] ?_);obtain⟨bO,aI,aJ⟩:=bI;refine aw ⟨.inr rfl,_,.agg rfl Tryz.underlying61 aI aJ (.nil),?_⟩;refine⟨hle,_,rfl,-(q.num.natAbs:Int),(q.den:Int),none,rfl,.inl ⟨rfl,by omega,rfl,by omega,by omega,by omega⟩⟩
  have hq:¬q.num<0:=by rw[hf]at hb;simpa using hb
  refine ax (aj [2,3] rfl ?_);refine af (vr 1 ?_);obtain⟨ti,ak,al⟩:=bI;refine aM (.inl ⟨rfl,rfl⟩) rfl rfl rfl ak al rfl rfl rfl (ae [2] ?_);obtain⟨bO,aI,aJ⟩:=bI;refine aw ⟨.inr rfl,_,.agg rfl Tryz.underlying61 aI aJ (.nil),?_⟩;refine⟨hle,_,rfl,(q.num.natAbs:Int),(q.den:Int),none,rfl,.inl ⟨rfl,by omega,rfl,by omega,by omega,by omega⟩⟩
theorem D4{H:Heap}{v:Value}{q:Rat}{N:Nat}(hv:bL H v q N)(hN:(N:Int)≤1099511627776):
 Fn Tryz.prog 56 #[v] H (nJ H q):=by
 obtain⟨bf,bu,bw,mE,mG,rfl,_⟩:=id hv;refine aW (args:=[_]) Tryz.func56 rfl rfl Tryz.ntmps56 rfl rfl fun w0=> ?_;refine aj [0] rfl ?_;refine af (bY rfl rfl (bD dd rfl (ae [1,2] ?_)));refine af (ab 1 rfl (au rfl rfl (xd hv hN) ?_));rintro w1 G1 ⟨dT,bQ⟩;obtain⟨u1,x1,rfl,dz,dD⟩:=id bQ;obtain⟨jZ,j0,rfl,j1,j2⟩:=id dz;obtain⟨pX,pY,rfl,pZ,p3⟩:=id dD;refine au rfl rfl (sS bQ) ?_;rintro w2 G2 ⟨cR,zT,rfl,bF⟩;obtain⟨n2,d2,b2,rfl,_⟩:=id bF;obtain⟨ti,ak,al⟩:=bI;refine aM (.inl ⟨rfl,rfl⟩) rfl rfl rfl ak al rfl rfl rfl (ae [2] ?_);obtain⟨bO,aI,aJ⟩:=bI;refine aw ⟨.inr rfl,_,.agg rfl Tryz.underlying61 aI aJ (.nil),?_⟩;exact⟨dT.trans cR,_,rfl,bF⟩
theorem nK{H:Heap}{vs:List Value}{q:Rat}(hv:aZ H vs q):
 Fn Tryz.prog 95 #[.agg vs.toArray] H (iI H q):=by
 obtain⟨n,d,b,rfl,gS⟩:=id hv
 have bV:=fun ad f u w (h:dI H (.agg #[.bool f,u,w]) q)(_:b=some ad)=>h.raw;refine aW (args:=[_]) Tryz.func95 rfl rfl Tryz.ntmps95 rfl rfl fun w0=> ?_;refine aj [0] rfl ?_;refine af (bY rfl rfl (bD cZ rfl (ae [1,2] ?_)));refine aq ?_
 rcases gS with ⟨rfl,hn,hd,h1,h2,h3⟩ | ⟨ad,f,u,w,rfl,oQ,nL,iJ,nI⟩
 ·
  skip
  refine af (ab 2 rfl (sk mK rfl rfl (ae [1,2,5] ?_)));refine dG rfl (ax (aj [1,2] rfl ?_));refine af (ab 4 rfl (au rfl rfl (M8 (by omega) (by omega) (by omega) (by omega)) ?_));rintro w1 G1 ⟨dT,bQ⟩;obtain⟨u1,x1,rfl,dz,dD⟩:=id bQ;obtain⟨jZ,j0,rfl,j1,j2⟩:=id dz;obtain⟨pX,pY,rfl,pZ,p3⟩:=id dD;rw[hn,hd,pW]at bQ;obtain⟨ti,ak,al⟩:=bT;refine aM (.inl ⟨rfl,rfl⟩) rfl rfl rfl ak al rfl rfl rfl (ae [2] ?_);obtain⟨bO,aI,aJ⟩:=bT;refine aw ⟨.inr rfl,_,.agg rfl Tryz.underlying29 aI aJ (.nil),?_⟩
  skip
  rw[hn,hd,pW];exact⟨dT,bQ⟩
 ·
  obtain⟨u1,w1,u5,dz,eB⟩:=id oQ
  obtain⟨rfl,rfl,rfl⟩:f=decide (q.num<0)∧u=u1∧w=w1:=by simpa using u5
  obtain⟨jZ,j0,rfl,j1,j2⟩:=id dz;obtain⟨w5,w6,rfl,w8,w9⟩:=id eB;refine af (ab 2 rfl (sk mK rfl rfl (ae [1,2,5] ?_)));refine eL rfl (af (ab 3 rfl (wG (vs:=[.bool _,_,_]) ag rfl rfl rfl (DY nL iJ nI) ?_)));obtain⟨ti,ak,al⟩:=bT;refine aM (.inl ⟨rfl,rfl⟩) rfl rfl rfl ak al rfl rfl rfl (ae [2] ?_);obtain⟨bO,aI,aJ⟩:=bT;refine aw ⟨.inr rfl,_,.agg rfl Tryz.underlying29 aI aJ (.nil),?_⟩;exact⟨.refl _,oQ⟩
theorem Nj{H:Heap}{vs:List Value}{q:Rat}(hv:aZ H vs q)(hN:(aK q:Int)≤1099511627776):
 Fn Tryz.prog 36 #[.agg vs.toArray] H (iI H q):=by
 obtain⟨n,d,b,rfl,gS⟩:=id hv
 have bV:=fun ad f u w (h:dI H (.agg #[.bool f,u,w]) q)(_:b=some ad)=>h.raw;refine aW (args:=[_]) Tryz.func36 rfl rfl Tryz.ntmps36 rfl rfl fun w0=> ?_;refine aj [0] rfl ?_;refine af (bY rfl rfl (bD cZ rfl (ae [1,2] ?_)));refine aq ?_
 rcases gS with ⟨rfl,hn,hd,h1,h2,h3⟩ | ⟨ad,f,u,w,rfl,oQ,nL,iJ,nI⟩
 ·
  skip
  refine af (ab 2 rfl (sk mK rfl rfl (ae [1,2,5] ?_)));refine dG rfl (ax (aj [1,2] rfl ?_));refine af (ab 4 rfl (au rfl rfl (M8 (by omega) (by omega) (by omega) (by omega)) ?_));rintro w1 G1 ⟨dT,bQ⟩;obtain⟨u1,x1,rfl,dz,dD⟩:=id bQ;obtain⟨jZ,j0,rfl,j1,j2⟩:=id dz;obtain⟨pX,pY,rfl,pZ,p3⟩:=id dD;rw[hn,hd,pW]at bQ;obtain⟨ti,ak,al⟩:=bT;refine aM (.inl ⟨rfl,rfl⟩) rfl rfl rfl ak al rfl rfl rfl (ae [2] ?_);obtain⟨bO,aI,aJ⟩:=bT;refine aw ⟨.inr rfl,_,.agg rfl Tryz.underlying29 aI aJ (.nil),?_⟩
  skip
  rw[hn,hd,pW];exact⟨dT,bQ⟩
 ·
  obtain⟨u1,w1,u5,dz,eB⟩:=id oQ
  obtain⟨rfl,rfl,rfl⟩:f=decide (q.num<0)∧u=u1∧w=w1:=by simpa using u5
  obtain⟨jZ,j0,rfl,j1,j2⟩:=id dz;obtain⟨w5,w6,rfl,w8,w9⟩:=id eB;refine af (ab 2 rfl (sk mK rfl rfl (ae [1,2,5] ?_)));refine eL rfl (af (ab 3 rfl (wG (vs:=[.bool _,_,_]) ag rfl rfl rfl (DY nL iJ nI) (au rfl rfl (xd oQ.raw hN) ?_))));rintro w1 G1 ⟨dT,bQ⟩;obtain⟨u1,x1,rfl,dz,dD⟩:=id bQ;obtain⟨jZ,j0,rfl,j1,j2⟩:=id dz;obtain⟨pX,pY,rfl,pZ,p3⟩:=id dD;obtain⟨ti,ak,al⟩:=bT;refine aM (.inl ⟨rfl,rfl⟩) rfl rfl rfl ak al rfl rfl rfl (ae [2] ?_);obtain⟨bO,aI,aJ⟩:=bT;refine aw ⟨.inr rfl,_,.agg rfl Tryz.underlying29 aI aJ (.nil),?_⟩;exact⟨dT,bQ⟩
theorem We{H:Heap}{n d:Int}{b:Option Addr}:
 Fn Tryz.prog 92 #[N3 n d b] H (fun v H'=>H'=H∧∃t,v = .bool t∧(t=true↔b=none∧-2147483647≤n∧n≤2147483647∧d≤2147483647)):=by
 refine aW (args:=[_]) Tryz.func92 rfl rfl Tryz.ntmps92 rfl rfl fun w0=> ?_;refine aj [0] rfl ?_;refine af (bY rfl rfl (ab 1 rfl (ae [1] ?_)))
 rcases b with _ | ad
 rotate_left
 ·
  skip
  refine af (ab 2 rfl (zd mK rfl rfl (ab 16 rfl (ae [2] ?_))));refine aw ⟨.inr rfl,_,.tmp rfl (.nil),?_⟩;exact⟨rfl,_,rfl,by constructor <;> intro h <;> first | (cases h;done) | exact⟨rfl,h1,h2,h3⟩ | (obtain⟨h4,h5,h6,h7⟩:=h;first | (cases h4;done) | omega) | rfl⟩
 ·
  skip
  by_cases h1: -2147483647≤n
  ·
   skip
   by_cases h2:n≤2147483647
   ·
    skip
    by_cases h3:d≤2147483647
    ·
     skip
     refine af (ab 2 rfl (zd mK rfl rfl (ab 3 rfl (aS true rfl rfl (pN h1) (ab 4 rfl (aS true rfl rfl (pN h2) (ab 4 rfl (aS true rfl rfl (pN h3) (ab 2 rfl (ae [2] ?_))))))))));refine aw ⟨.inr rfl,_,.tmp rfl (.nil),?_⟩;exact⟨rfl,_,rfl,by constructor <;> intro h <;> first | (cases h;done) | exact⟨rfl,h1,h2,h3⟩ | (obtain⟨h4,h5,h6,h7⟩:=h;first | (cases h4;done) | omega) | rfl⟩
    skip
    refine af (ab 2 rfl (zd mK rfl rfl (ab 3 rfl (aS true rfl rfl (pN h1) (ab 4 rfl (aS true rfl rfl (pN h2) (ab 4 rfl (aS false rfl rfl (wQ (by omega)) (ab 2 rfl (ae [2] ?_))))))))));refine aw ⟨.inr rfl,_,.tmp rfl (.nil),?_⟩;exact⟨rfl,_,rfl,by constructor <;> intro h <;> first | (cases h;done) | exact⟨rfl,h1,h2,h3⟩ | (obtain⟨h4,h5,h6,h7⟩:=h;first | (cases h4;done) | omega) | rfl⟩
   skip
   refine af (ab 2 rfl (zd mK rfl rfl (ab 3 rfl (aS true rfl rfl (pN h1) (ab 4 rfl (aS false rfl rfl (wQ (by omega)) (ab 7 rfl (ae [2] ?_))))))));refine aw ⟨.inr rfl,_,.tmp rfl (.nil),?_⟩;exact⟨rfl,_,rfl,by constructor <;> intro h <;> first | (cases h;done) | exact⟨rfl,h1,h2,h3⟩ | (obtain⟨h4,h5,h6,h7⟩:=h;first | (cases h4;done) | omega) | rfl⟩
  skip
  refine af (ab 2 rfl (zd mK rfl rfl (ab 3 rfl (aS false rfl rfl (wQ (by omega)) (ab 12 rfl (ae [2] ?_))))));refine aw ⟨.inr rfl,_,.tmp rfl (.nil),?_⟩;exact⟨rfl,_,rfl,by constructor <;> intro h <;> first | (cases h;done) | exact⟨rfl,h1,h2,h3⟩ | (obtain⟨h4,h5,h6,h7⟩:=h;first | (cases h4;done) | omega) | rfl⟩
def q6(n d:Int)(b:Option Addr):Bool:=b.isNone&&(decide (-2147483647≤n)&&(decide (n≤2147483647)&&decide (d≤2147483647)))
theorem u6{n d:Int}{b:Option Addr}:q6 n d b=true↔b=none∧-2147483647≤n∧n≤2147483647∧d≤2147483647:=by
 simp[q6]
theorem lj{H:Heap}{n d:Int}{b:Option Addr}:Fn Tryz.prog 92 #[N3 n d b] H (nH H (.bool (q6 n d b))):=
 We.mono fun v H' ⟨h1,t,h2,h3⟩=>⟨h1,by rw[h2];congr 1;rw[Bool.eq_iff_iff,h3,u6]⟩
theorem D5{H:Heap}{n d:Int}(h1: -9223372036854775807≤n)(h2:n≤9223372036854775807)(h3:0<d)(h4:d≤9223372036854775807):
 Fn Tryz.prog 93 #[.int .i64 n,.int .i64 d] H (nJ H ((n:Rat)/(d:Rat))):=by
 have sJ:=lowest (n:=n) h3;refine aW (args:=[_,_]) Tryz.func93 rfl rfl Tryz.ntmps93 rfl rfl fun w0=> ?_;refine aj [0,1] rfl ?_;refine af (bD dd rfl (ae [0,1,4] ?_));refine af (ab 2 rfl (wF rfl ⟨by omega,by omega⟩ (Ua rfl rfl ?_)));rw[show (if -n>n then -n else n)=((n.natAbs:Nat):Int) by split <;> omega];refine ab 3 rfl (ae [0,1,4,5,6] ?_);refine aq (aD (jS (fun(a:Nat)(b:Nat)=>b) (fun(a:Nat)(b:Nat)=>put (put (put (put (put (emp) 0 (.val (.int .i64 n))) 1 (.val (.int .i64 d))) 4 (.box [.int .i64 0,.int .i64 0,.pointer none])) 5 (.val (.int .i64 (a:Int)))) 6 (.val (.int .i64 (b:Int)))) (fun(a:Nat)(b:Nat) H'=>H'=H∧Nat.gcd a b=Nat.gcd n.natAbs d.natAbs∧a≤9223372036854775807∧b≤9223372036854775807) n.natAbs d.natAbs (⟨rfl,rfl,by omega,by omega⟩) ay ?_));rintro a b H1 ⟨rfl,hg,ha,vc⟩;refine aq (af (ab 2 rfl (ae [0,1,4,5,6,13] ?_)));refine az rfl (fun hb=> ?_) (fun hb=> ?_)
 ·
  have hb:0<b:=by simp at hb;omega
  refine ax (aj [0,1,4,5,6] rfl ?_);refine aD (fc .bR [0,1,2,3,4,5] follows (by kernel_rfl) ?_);refine ab 3 rfl (kp rfl rfl (by omega) (by omega) (ab 2 rfl (aA ?_)));exact⟨b,a%b,Nat.mod_lt a hb,ay,rfl,by rw[←hg,Nat.gcd_comm b,←Nat.gcd_rec,Nat.gcd_comm],vc,by have:=Nat.mod_lt a hb;omega⟩
 ·
  have hb:b=0:=by simp at hb;omega
  subst hb;rw[Nat.gcd_zero_right]at hg
  have ha0:0<a:=by rw[hg];exact Nat.gcd_pos_of_pos_right _ (by omega)
  have jR:=Wa (g:=a) h1 h2;have kR:(d/(a:Int))≤d∧0≤d/(a:Int):=⟨Int.ediv_le_self _ (by omega),Int.ediv_nonneg (by omega) (by omega)⟩;refine bC (aj [0,1,4,5] rfl ?_);refine cg .bR [0,1,2,3,4,5,6,7] follows (by kernel_rfl) ?_;refine ab 2 rfl (Tx rfl rfl (by omega) ⟨by omega,by omega⟩ (ab 2 rfl (jy rfl rfl (by omega) (by omega) ⟨by omega,by omega⟩ (dH ag rfl dd rfl rfl ?_))));obtain⟨ti,ak,al⟩:=bI;refine aM (.inl ⟨rfl,rfl⟩) rfl rfl rfl ak al rfl rfl rfl (ae [4] ?_);obtain⟨bO,aI,aJ⟩:=bI;refine aw ⟨.inr rfl,_,.agg rfl Tryz.underlying61 aI aJ (.nil),?_⟩;rw[←hg]at sJ;refine⟨.refl _,_,rfl,n.tdiv a,d/(a:Int),none,rfl,.inl ⟨rfl,sJ.1.symm,?_,jR.1,jR.2,by omega⟩⟩;rw[sJ.2]
  have e:d=(d.natAbs:Int):=by omega
  rw[e,Int.natAbs_natCast];rfl
theorem iK{H:Heap}{vs:List Value}{q:Rat}(hv:aZ H vs q)(hN:(aK q:Int)≤1099511627776):
 Fn Tryz.prog 28 #[.agg vs.toArray] H (fun v H'=>Heap.le H H'∧v = .int .i64 (fK q)):=by
 obtain⟨n,d,b,rfl,gS⟩:=id hv
 have bV:=fun ad f u w (h:dI H (.agg #[.bool f,u,w]) q)(_:b=some ad)=>h.raw
 have hs:=Nf q;refine aW (args:=[_]) Tryz.func28 rfl rfl Tryz.ntmps28 rfl rfl fun w0=> ?_;refine aj [0] rfl ?_;refine af (bY rfl rfl (ab 1 rfl (ae [1] ?_)));refine aq (aD ?_)
 rcases gS with ⟨rfl,hn,hd,h1,h2,h3⟩ | ⟨ad,f,u,w,rfl,oQ,nL,iJ,nI⟩
 ·
  skip
  refine af (ab 2 rfl (sk mK rfl rfl (ab 1 rfl (ae [1,3] ?_))));refine dG rfl (af (ab 4 rfl (ae [1,12] ?_)));refine az rfl (fun hb=> ?_) (fun hb=> ?_)
  ·
   have hb:n<0:=by simpa using hb
   rw[if_neg (by omega),decide_eq_true (by omega)]at hs;refine af (ab 1 rfl (ae [2] ?_));refine aw ⟨.inr rfl,_,.tmp rfl (.nil),?_⟩;exact⟨.refl _,by rw[hs];rfl⟩
  ·
   have hb:0≤n:=by simpa using hb
   refine af (ab 4 rfl (ae [16] ?_));refine az rfl (fun hb=> ?_) (fun hb=> ?_)
   ·
    have hb:0<n:=by simpa using hb
    rw[if_neg (by omega),decide_eq_false (by omega)]at hs;refine af (ab 1 rfl (ae [2] ?_));refine aw ⟨.inr rfl,_,.tmp rfl (.nil),?_⟩;exact⟨.refl _,by rw[hs];rfl⟩
   have bU:n≤0:=by simpa using hb
   rw[if_pos (by omega)]at hs;refine ax (aj [] rfl ?_);refine af (ab 1 rfl (ae [2] ?_));refine aw ⟨.inr rfl,_,.tmp rfl (.nil),?_⟩;exact⟨.refl _,by rw[hs];rfl⟩
 ·
  obtain⟨u1,w1,u5,dz,eB⟩:=id oQ
  obtain⟨rfl,rfl,rfl⟩:f=decide (q.num<0)∧u=u1∧w=w1:=by simpa using u5
  obtain⟨jZ,j0,rfl,j1,j2⟩:=id dz;obtain⟨w5,w6,rfl,w8,w9⟩:=id eB;refine af (ab 2 rfl (sk mK rfl rfl (ab 1 rfl (ae [1,3] ?_))));refine eL rfl (af (ab 3 rfl (wG (vs:=[.bool _,_,_]) ag rfl rfl rfl (DY nL iJ nI) (au rfl rfl (M9 oQ.raw hN) ?_))));rintro v1 H1 ⟨cn,rfl⟩;refine ab 1 rfl (ae [2] ?_);refine aw ⟨.inr rfl,_,.tmp rfl (.nil),?_⟩;exact⟨cn,rfl⟩
theorem xn{H:Heap}{vs:List Value}{q:Rat}(hv:aZ H vs q)(hN:(aK q:Int)≤1099511627776):
 Fn Tryz.prog 33 #[.agg vs.toArray] H (nJ H (-q)):=by
 obtain⟨n,d,b,rfl,gS⟩:=id hv
 have bV:=fun ad f u w (h:dI H (.agg #[.bool f,u,w]) q)(_:b=some ad)=>h.raw;refine aW (args:=[_]) Tryz.func33 rfl rfl Tryz.ntmps33 rfl rfl fun w0=> ?_;refine aj [0] rfl ?_;refine af (bY rfl rfl (bD dd rfl (ae [1,2] ?_)));refine aq ?_
 rcases gS with ⟨rfl,hn,hd,h1,h2,h3⟩ | ⟨ad,f,u,w,rfl,oQ,nL,iJ,nI⟩
 ·
  skip
  refine af (ab 2 rfl (sk mK rfl rfl (ae [1,2,5] ?_)));refine dG rfl (ax (aj [1,2] rfl ?_));refine af (ab 2 rfl (wF rfl ⟨by omega,by omega⟩ (ab 2 rfl (dH ag rfl dd rfl rfl ?_))));obtain⟨ti,ak,al⟩:=bI;refine aM (.inl ⟨rfl,rfl⟩) rfl rfl rfl ak al rfl rfl rfl (ae [2] ?_);obtain⟨bO,aI,aJ⟩:=bI;refine aw ⟨.inr rfl,_,.agg rfl Tryz.underlying61 aI aJ (.nil),?_⟩;exact⟨.refl _,_,rfl,-n,d,none,rfl,.inl ⟨rfl,by rw[Rat.neg_num,hn],by rw[Rat.neg_den,hd],by omega,by omega,by omega⟩⟩
 ·
  obtain⟨u1,w1,u5,dz,eB⟩:=id oQ
  obtain⟨rfl,rfl,rfl⟩:f=decide (q.num<0)∧u=u1∧w=w1:=by simpa using u5
  obtain⟨jZ,j0,rfl,j1,j2⟩:=id dz;obtain⟨w5,w6,rfl,w8,w9⟩:=id eB;refine af (ab 2 rfl (sk mK rfl rfl (ae [1,2,5] ?_)));refine eL rfl (af (ab 3 rfl (wG (vs:=[.bool _,_,_]) ag rfl rfl rfl (DY nL iJ nI) (au rfl rfl (V4 oQ.raw hN) ?_))));rintro w1 G1 ⟨dT,bQ⟩;obtain⟨u1,x1,rfl,dz,dD⟩:=id bQ;obtain⟨jZ,j0,rfl,j1,j2⟩:=id dz;obtain⟨pX,pY,rfl,pZ,p3⟩:=id dD;refine au rfl rfl (sS bQ) ?_;rintro w2 G2 ⟨cR,zT,rfl,bF⟩;obtain⟨n2,d2,b2,rfl,_⟩:=id bF;obtain⟨ti,ak,al⟩:=bI;refine aM (.inl ⟨rfl,rfl⟩) rfl rfl rfl ak al rfl rfl rfl (ae [2] ?_);obtain⟨bO,aI,aJ⟩:=bI;refine aw ⟨.inr rfl,_,.agg rfl Tryz.underlying61 aI aJ (.nil),?_⟩;exact⟨dT.trans cR,_,rfl,bF⟩
end Go.ar
namespace Lp
def aP:Nat→(Nat→Rat)→Rat
 | 0,_=>0
 | n+1,f=>aP n f+f n
theorem eu(n:Nat)(f:Nat→Rat):aP (n+1) f=aP n f+f n:=rfl
theorem sT(f:Nat→Rat):aP 0 f=0:=rfl
theorem ec{n:Nat}{f g:Nat→Rat}(h:∀i,i<n→f i=g i):aP n f=aP n g:=by
 induction n with
 | zero=>rfl
 | succ n ih=>
  rw[eu,eu,ih (fun i hi=>h i (by omega)),h n (by omega)]
theorem HY(n:Nat)(f g:Nat→Rat):aP n (fun i=>f i+g i)=aP n f+aP n g:=by
 induction n with
 | zero=>simp only[aP];grind
 | succ n ih=>simp only[eu,ih];grind
theorem zU(n:Nat)(f g:Nat→Rat):aP n (fun i=>f i-g i)=aP n f-aP n g:=by
 induction n with
 | zero=>simp only[aP];grind
 | succ n ih=>simp only[eu,ih];grind
theorem q7(n:Nat)(k:Rat)(f:Nat→Rat):aP n (fun i=>k*f i)=k*aP n f:=by
 induction n with
 | zero=>simp[aP]
 | succ n ih=>simp only[eu,ih];grind
theorem p4(n:Nat)(k:Rat)(f:Nat→Rat):aP n (fun i=>f i*k)=aP n f*k:=by
 induction n with
 | zero=>simp[aP]
 | succ n ih=>simp only[eu,ih];grind
theorem D8(n:Nat)(f:Nat→Rat):aP n (fun i=> - f i) = - aP n f:=by
 induction n with
 | zero=>simp only[aP];grind
 | succ n ih=>simp only[eu,ih];grind
theorem D9(n:Nat):aP n (fun _=>0)=0:=by
 induction n with
 | zero=>rfl
 | succ n ih=>rw[eu,ih];grind
theorem ks{n:Nat}{f:Nat→Rat}(h:∀i,i<n→f i=0):aP n f=0:=by
 rw[ec h,D9]
theorem nM{n k:Nat}(hk:k<n)(f:Nat→Rat)(h:∀i,i<n→i≠k→f i=0):aP n f=f k:=by
 induction n with
 | zero=>omega
 | succ n ih=>
  rw[eu]
  by_cases e:k=n
  ·subst e
   rw[ks (fun i hi=>h i (by omega) (by omega))];grind
  ·rw[ih (by omega) (fun i hi a6=>h i (by omega) a6),h n (by omega) (by omega)];grind
theorem Ea(m n:Nat)(f:Nat→Nat→Rat):
  aP m (fun i=>aP n (fun j=>f i j))=aP n (fun j=>aP m (fun i=>f i j)):=by
 induction m with
 | zero=>simp[aP,D9]
 | succ m ih=>simp only[eu,ih,HY]
theorem zV{n:Nat}{f:Nat→Rat}(h:∀i,i<n→0≤f i):0≤aP n f:=by
 induction n with
 | zero=>exact Rat.le_refl
 | succ n ih=>
  rw[eu]
  have h1:=ih (fun i hi=>h i (by omega))
  have h2:=h n (by omega)
  grind
theorem Eb{n:Nat}{f g:Nat→Rat}(h:∀i,i<n→f i≤g i):aP n f≤aP n g:=by
 induction n with
 | zero=>exact Rat.le_refl
 | succ n ih=>
  rw[eu,eu]
  have h1:=ih (fun i hi=>h i (by omega))
  have h2:=h n (by omega)
  grind
theorem Wf{n:Nat}{f:Nat→Rat}(h:0<aP n f):∃i,i<n∧0<f i:=by
 false_or_by_contra
 rename_i hc
 have:aP n f≤aP n (fun _=>0):=Eb (fun i hi=>by
  have:¬0<f i:=fun hp=>hc ⟨i,hi,hp⟩
  grind)
 rw[D9]at this
 grind
theorem Nk{n k:Nat}(hk:k<n)(f:Nat→Rat):aP n (fun i=>if i=k then f i else 0)=f k:=by
 rw[nM hk _ (fun i _ a6=>if_neg a6),if_pos rfl]
structure ao where
 m:Nat
 n:Nat
 A:Nat→Nat→Rat
 c:Nat→Rat
 B:Nat→Nat
namespace ao
def l4(T:ao)(x:Nat→Rat):Prop:=∀i,i<T.m→aP (T.n+1) (fun j=>T.A i j*x j)=0
def cost(T:ao)(x:Nat→Rat):Rat:=aP (T.n+1) (fun j=>T.c j*x j)
structure WF(T:ao):Prop where
 lt:∀i,i<T.m→T.B i<T.n
 unit:∀i k,i<T.m→k<T.m→T.A k (T.B i)=if k=i then 1 else 0
 zero:∀i,i<T.m→T.c (T.B i)=0
theorem WF.inj{T:ao}(h:T.WF){i k:Nat}(hi:i<T.m)(hk:k<T.m)(e:T.B i=T.B k):i=k:=by
 have h1:=h.unit i k hi hk
 have h2:=h.unit k k hk hk
 rw[e,h2]at h1
 simp at h1
 exact h1.symm
def ji(T:ao):Prop:=∀i,i<T.m→0≤T.A i T.n
def dir(T:ao)(s:Nat)(j:Nat):Rat:=(if j=s then 1 else 0)-aP T.m (fun i=>if T.B i=j then T.A i s else 0)
theorem xq(T:ao)(hB:∀i,i<T.m→T.B i<T.n)(s:Nat)(hs:s≤T.n)(f:Nat→Rat):
  aP (T.n+1) (fun j=>f j*T.dir s j)=f s-aP T.m (fun i=>f (T.B i)*T.A i s):=by
 have e1:∀j,f j*T.dir s j=(if j=s then f j else 0)-aP T.m (fun i=>if j=T.B i then f j*T.A i s else 0):=by
  intro j
  unfold dir
  have:aP T.m (fun i=>if j=T.B i then f j*T.A i s else 0)=f j*aP T.m (fun i=>if T.B i=j then T.A i s else 0):=by
   rw[←q7]
   refine ec fun i _=> ?_
   by_cases e:T.B i=j
   ·rw[if_pos e,if_pos e.symm]
   ·rw[if_neg e,if_neg (fun h=>e h.symm)];grind
  rw[this]
  by_cases e:j=s
  ·rw[if_pos e,if_pos e];grind
  ·rw[if_neg e,if_neg e];grind
 rw[ec (fun j _=>e1 j),zU,Nk (by omega)]
 congr 1
 rw[Ea]
 refine ec fun i hi=> ?_
 have:=hB i hi
 exact Nk (f:=fun j=>f j*T.A i s) (by omega)
theorem sU{T:ao}(h:T.WF)(s:Nat)(hs:s≤T.n):T.l4 (T.dir s):=by
 intro k hk
 rw[xq T h.lt s hs]
 rw[nM hk]
 ·rw[h.unit k k hk hk,if_pos rfl];grind
 ·intro i hi a6
  rw[h.unit i k hi hk,if_neg (fun e=>a6 e.symm)];grind
theorem xt{T:ao}(h:T.WF)(s:Nat)(hs:s≤T.n):T.cost (T.dir s)=T.c s:=by
 unfold cost
 rw[xq T h.lt s hs,ks]
 ·grind
 ·intro i hi;rw[h.zero i hi];grind
def bP(T:ao)(r s:Nat):ao:=
 {m:=T.m,n:=T.n
  A:=fun i j=>if i=r then T.A r j/T.A r s else T.A i j-T.A i s*(T.A r j/T.A r s)
  c:=fun j=>T.c j-T.c s*(T.A r j/T.A r s)
  B:=fun i=>if i=r then s else T.B i}
theorem xz{T:ao}(h:T.WF){r s:Nat}(hr:r<T.m)(hs:s<T.n)(hp:T.A r s≠0):(T.bP r s).WF:=by
 refine⟨fun i hi=> ?_,fun i k hi hk=> ?_,fun i hi=> ?_⟩
 ·simp only[bP]at hi⊢
  split
  ·exact hs
  ·exact h.lt i hi
 ·simp only[bP]at hi hk⊢
  by_cases ei:i=r
  ·simp only[if_pos ei]
   by_cases ek:k=r
   ·simp only[ek,ei,if_true];grind
   ·simp only[if_neg ek]
    rw[if_neg (by omega)];grind
  ·simp only[if_neg ei]
   have hu:=h.unit i r hi hr
   rw[if_neg (fun e=>ei e.symm)]at hu
   rw[hu]
   by_cases ek:k=r
   ·simp only[if_pos ek]
    rw[if_neg (by omega)];grind
   ·simp only[if_neg ek]
    rw[h.unit i k hi hk];grind
 ·simp only[bP]at hi⊢
  by_cases ei:i=r
  ·simp only[if_pos ei];grind
  ·simp only[if_neg ei]
   have hu:=h.unit i r hi hr
   rw[if_neg (fun e=>ei e.symm)]at hu
   rw[hu,h.zero i hi];grind
theorem Nl(T:ao)(r s i:Nat)(x:Nat→Rat):
  aP (T.n+1) (fun j=>(T.bP r s).A i j*x j) =
   if i=r then aP (T.n+1) (fun j=>T.A r j*x j)/T.A r s
   else aP (T.n+1) (fun j=>T.A i j*x j)-T.A i s*(aP (T.n+1) (fun j=>T.A r j*x j)/T.A r s):=by
 simp only[bP]
 by_cases e:i=r
 ·simp only[if_pos e]
  rw[Rat.div_def,←p4]
  exact ec fun j _=>by grind
 ·simp only[if_neg e]
  rw[Rat.div_def,←p4,←q7,←zU]
  exact ec fun j _=>by grind
theorem HZ{T:ao}{r s:Nat}(hr:r<T.m)(hp:T.A r s≠0)(x:Nat→Rat):(T.bP r s).l4 x↔T.l4 x:=by
 constructor
 ·intro h i hi
  have cM:=h r hr
  have eJ:=h i hi
  have en:(T.bP r s).n=T.n:=rfl
  rw[en,Nl]at cM eJ
  rw[if_pos rfl]at cM
  have h0:aP (T.n+1) (fun j=>T.A r j*x j)=0:=by grind
  by_cases e:i=r
  ·subst e;exact h0
  ·rw[if_neg e]at eJ;grind
 ·intro h i hi
  have en:(T.bP r s).n=T.n:=rfl
  have em:(T.bP r s).m=T.m:=rfl
  rw[em]at hi
  rw[en,Nl,h r hr,h i hi]
  split <;> grind
theorem Nm{T:ao}{r s:Nat}(hr:r<T.m)(x:Nat→Rat)(hx:T.l4 x):(T.bP r s).cost x=T.cost x:=by
 have e:(T.bP r s).cost x=T.cost x-T.c s*(aP (T.n+1) (fun j=>T.A r j*x j)/T.A r s):=by
  unfold cost
  simp only[bP]
  rw[Rat.div_def,←p4,←q7,←zU]
  exact ec fun j _=>by grind
 rw[e,hx r hr];grind
structure p5(T:ao)(u r s:Nat):Prop where
 su:s<u
 neg:T.c s<0
 first:∀j,j<s→0≤T.c j
 rm:r<T.m
 pos:0<T.A r s
 least:∀i,i<T.m→0<T.A i s→T.A r T.n/T.A r s<T.A i T.n/T.A i s∨(T.A r T.n/T.A r s=T.A i T.n/T.A i s∧T.B r≤T.B i)
theorem Ia{a b:Rat}(ha:0≤a)(hb:0<b):0≤a/b:=by
 rw[Rat.div_def]
 have:0<b⁻¹:=Rat.inv_pos.2 hb
 exact Rat.mul_nonneg ha (Rat.le_of_lt this)
theorem Ib{T:ao}{u r s:Nat}(hf:T.ji)(hb:T.p5 u r s):(T.bP r s).ji:=by
 intro i hi
 have eJ:i<T.m:=hi
 have hr:=hf r hb.rm
 have ox:=hf i eJ
 have hq:0≤T.A r T.n/T.A r s:=Ia hr hb.pos
 show 0≤(if i=r then T.A r T.n/T.A r s else T.A i T.n-T.A i s*(T.A r T.n/T.A r s))
 split
 ·exact hq
 ·by_cases hp:0<T.A i s
  ·have hl:T.A r T.n/T.A r s≤T.A i T.n/T.A i s:=by
    rcases hb.least i eJ hp with h | h
    ·exact Rat.le_of_lt h
    ·rw[h.1];exact Rat.le_refl
   have h3:T.A i s*(T.A r T.n/T.A r s)≤T.A i s*(T.A i T.n/T.A i s):=Rat.mul_le_mul_of_nonneg_left hl (Rat.le_of_lt hp)
   have h4:T.A i s*(T.A i T.n/T.A i s)=T.A i T.n:=by grind
   grind
  ·have h5:0≤(- T.A i s)*(T.A r T.n/T.A r s):=Rat.mul_nonneg (by grind) hq
   grind
structure oR(u:Nat)(len:Nat) where
 T:Nat→ao
 r:Nat→Nat
 s:Nat→Nat
 wf:(T 0).WF
 cT:(T 0).ji
 un:u≤(T 0).n
 step:∀k,k<len→(T k).p5 u (r k) (s k)
 next:∀k,k<len→T (k+1)=(T k).bP (r k) (s k)
namespace oR
variable {u len:Nat} (R:oR u len)
theorem xA(k:Nat)(hk:k≤len):(R.T k).n=(R.T 0).n:=by
 induction k with
 | zero=>rfl
 | succ k ih=>rw[R.next k (by omega)];exact ih (by omega)
theorem sn{k:Nat}(hk:k<len):R.s k<(R.T k).n:=by
 have:=(R.step k hk).su
 have:=R.un
 rw[R.xA k (by omega)];omega
theorem sV(k:Nat)(hk:k≤len):(R.T k).WF:=by
 induction k with
 | zero=>exact R.wf
 | succ k ih=>
  rw[R.next k (by omega)]
  have hb:=R.step k (by omega)
  have:=hb.pos
  exact xz (ih (by omega)) hb.rm (R.sn (by omega)) (by grind)
theorem Wg(k:Nat)(hk:k≤len):(R.T k).ji:=by
 induction k with
 | zero=>exact R.cT
 | succ k ih=>
  rw[R.next k (by omega)]
  exact Ib (ih (by omega)) (R.step k (by omega))
theorem Nn(k:Nat)(hk:k≤len)(x:Nat→Rat):(R.T k).l4 x↔(R.T 0).l4 x:=by
 induction k with
 | zero=>exact Iff.rfl
 | succ k ih=>
  rw[R.next k (by omega)]
  have hb:=R.step k (by omega)
  have:=hb.pos
  rw[HZ hb.rm (by grind)]
  exact ih (by omega)
theorem Np(k:Nat)(hk:k≤len)(x:Nat→Rat)(hx:(R.T 0).l4 x):(R.T k).cost x=(R.T 0).cost x:=by
 induction k with
 | zero=>rfl
 | succ k ih=>
  rw[R.next k (by omega)]
  have hb:=R.step k (by omega)
  rw[Nm hb.rm x ((R.Nn k (by omega) x).2 hx)]
  exact ih (by omega)
def basic(k j:Nat):Prop:=∃i,i<(R.T k).m∧(R.T k).B i=j
def val(T:ao)(j:Nat):Rat:=aP T.m (fun i=>if T.B i=j then T.A i T.n else 0)
theorem Ic{T:ao}(h:T.WF){i:Nat}(hi:i<T.m):val T (T.B i)=T.A i T.n:=by
 unfold val
 rw[nM hi,if_pos rfl]
 intro k hk a6
 rw[if_neg]
 exact fun e=>a6 (h.inj hk hi e)
def p6(k:Nat):Prop:=(R.T k).A (R.r k) (R.T k).n=0
theorem Nq{k:Nat}(hk:k<len)(hd:R.p6 k)(j:Nat):val (R.T (k+1)) j=val (R.T k) j:=by
 rw[R.next k hk]
 unfold val
 unfold p6 at hd
 refine ec fun i hi=> ?_
 simp only[bP]
 rw[hd]
 by_cases e:i=R.r k
 ·subst e;simp only[if_true,hd];grind
 ·simp only[if_neg e];grind
theorem Nr{a b:Nat}(Ec:a≤b)(hb:b≤len)(hd:∀k,a≤k→k<b→R.p6 k)(j:Nat):val (R.T b) j=val (R.T a) j:=by
 induction b with
 | zero=>obtain rfl:a=0:=by omega
         rfl
 | succ b ih=>
  by_cases e:a=b+1
  ·subst e;rfl
  ·rw[R.Nq (by omega) (hd b (by omega) (by omega))]
   exact ih (by omega) (by omega) (fun k h1 h2=>hd k h1 (by omega))
theorem zW{k:Nat}(hk:k<len)(j:Nat):R.basic (k+1) j↔(j=R.s k∨(R.basic k j∧j≠(R.T k).B (R.r k))):=by
 unfold basic
 rw[R.next k hk]
 have hb:=R.step k hk
 have hw:=R.sV k (by omega)
 constructor
 ·rintro⟨i,hi,e⟩
  have eJ:i<(R.T k).m:=hi
  have e':(if i=R.r k then R.s k else(R.T k).B i)=j:=e
  by_cases er:i=R.r k
  ·rw[if_pos er]at e';exact .inl e'.symm
  ·rw[if_neg er]at e'
   refine .inr ⟨⟨i,eJ,e'⟩,fun h=>er (hw.inj eJ hb.rm (by rw[e',h]))⟩
 ·rintro(h | ⟨⟨i,hi,e⟩,a6⟩)
  ·refine⟨R.r k,hb.rm,?_⟩
   show (if R.r k=R.r k then R.s k else _)=j
   rw[if_pos rfl,h]
  ·refine⟨i,hi,?_⟩
   show (if i=R.r k then R.s k else(R.T k).B i)=j
   rw[if_neg,e]
   intro er;exact a6 (by rw[←e,er])
theorem Ie{k:Nat}(hk:k<len):¬R.basic k (R.s k):=by
 rintro⟨i,hi,e⟩
 have:=(R.sV k (by omega)).zero i hi
 rw[e]at this
 have:=(R.step k hk).neg
 grind
theorem Ig{k:Nat}(hk:k<len):R.basic k ((R.T k).B (R.r k)):=⟨_,(R.step k hk).rm,rfl⟩
theorem change{a b:Nat}(Ec:a≤b)(hb:b≤len)(j:Nat)(h:¬(R.basic a j↔R.basic b j)):
  ∃k,a≤k∧k<b∧(R.s k=j∨(R.T k).B (R.r k)=j):=by
 induction b with
 | zero=>obtain rfl:a=0:=by omega
         exact absurd Iff.rfl h
 | succ b ih=>
  by_cases e:a=b+1
  ·subst e;exact absurd Iff.rfl h
  ·by_cases h2:R.s b=j∨(R.T b).B (R.r b)=j
   ·exact⟨b,by omega,by omega,h2⟩
   ·have:R.basic (b+1) j↔R.basic b j:=by
     rw[R.zW (by omega)]
     constructor
     ·rintro(h | h)
      ·exact absurd (.inl h.symm) h2
      ·exact h.1
     ·exact fun h=> .inr ⟨h,fun e=>h2 (.inr e.symm)⟩
    obtain⟨k,h3,h4,h5⟩:=ih (by omega) (by omega) (fun hh=>h (hh.trans this.symm))
    exact⟨k,h3,by omega,h5⟩
theorem val_zero{k:Nat}(hk:k<len)(hd:R.p6 k){j:Nat}(h:R.s k=j∨(R.T k).B (R.r k)=j):val (R.T k) j=0:=by
 rcases h with h | h
 ·rw[←R.Nq hk hd]
  have e:j=(R.T (k+1)).B (R.r k):=by
   rw[R.next k hk]
   show j=if R.r k=R.r k then R.s k else _
   rw[if_pos rfl,h]
  rw[e,Ic (R.sV (k+1) (by omega)) (by rw[R.next k hk];exact(R.step k hk).rm)]
  rw[R.next k hk]
  show (if R.r k=R.r k then(R.T k).A (R.r k) (R.T k).n/(R.T k).A (R.r k) (R.s k)else _)=0
  rw[if_pos rfl]
  unfold p6 at hd
  rw[hd];grind
 ·rw[←h,Ic (R.sV k (by omega)) (R.step k hk).rm]
  exact hd
theorem Ed{a b t p q:Nat}(hb:b≤len)(hd:∀k,a≤k→k<b→R.p6 k)
  (hle:∀k,a≤k→k<b→R.s k≤t∧(R.T k).B (R.r k)≤t) (eV:a≤p) (eI:p<b) (bQ:a≤q) (bF:q<b)
  (hp:(R.T p).B (R.r p)=t) (hq:R.s q=t):False:=by
 have bp:=R.step p (by omega)
 have bq:=R.step q (by omega)
 have wp:=R.sV p (by omega)
 have hs:R.s p<t:=by
  have h1:=(hle p eV eI).1
  have h2:R.s p≠t:=fun e=>R.Ie (k:=p) (by omega) (by rw[e,←hp];exact R.Ig (by omega))
  omega
 have oS:R.s p≤(R.T p).n:=Nat.le_of_lt (R.sn (by omega))
 have Wh:=sU wp (R.s p) oS
 have Ns:=(R.Nn p (by omega) _).1 Wh
 have hc:=xt wp (R.s p) oS
 rw[R.Np p (by omega) _ Ns,←R.Np q (by omega) _ Ns]at hc
 have en:(R.T q).n=(R.T p).n:=by rw[R.xA p (by omega),R.xA q (by omega)]
 unfold cost at hc
 rw[en,xq _ wp.lt _ oS]at hc
 have fe:0≤(R.T q).c (R.s p):=bq.first _ (by rw[hq];exact hs)
 have fN:=bp.neg
 have Ih:0<aP (R.T p).m (fun i=>(R.T q).c ((R.T p).B i)*(R.T p).A i (R.s p)):=by grind
 obtain⟨i,hi,q8⟩:=Wf Ih
 have D3:¬R.basic q ((R.T p).B i):=by
  rintro⟨k,hk,e⟩
  have:=(R.sV q (by omega)).zero k hk
  rw[e]at this
  rw[this]at q8;grind
 have Hp:R.basic p ((R.T p).B i):=⟨i,hi,rfl⟩
 have hex:∃k,a≤k∧k<b∧min p q≤k∧(R.s k=(R.T p).B i∨(R.T k).B (R.r k)=(R.T p).B i):=by
  rcases Nat.le_total p q with jU | jU
  ·obtain⟨k,h1,h2,h3⟩:=R.change jU (by omega) ((R.T p).B i) (fun h=>D3 (h.1 Hp))
   exact⟨k,by omega,by omega,by omega,h3⟩
  ·obtain⟨k,h1,h2,h3⟩:=R.change jU (by omega) ((R.T p).B i) (fun h=>D3 (h.2 Hp))
   exact⟨k,by omega,by omega,by omega,h3⟩
 obtain⟨k,fU,gi,_,dC⟩:=hex
 have sW:(R.T p).B i≤t:=by
  rcases dC with e | e
  ·rw[←e];exact(hle k fU gi).1
  ·rw[←e];exact(hle k fU gi).2
 have DZ:val (R.T k) ((R.T p).B i)=0:=R.val_zero (by omega) (hd k fU gi) dC
 have Nu:val (R.T p) ((R.T p).B i)=0:=by
  rcases Nat.le_total p k with h | h
  ·rw[←R.Nr h (by omega) (fun x h1 h2=>hd x (by omega) (by omega))];exact DZ
  ·rw[R.Nr h (by omega) (fun x h1 h2=>hd x (by omega) (by omega))];exact DZ
 rw[Ic wp hi]at Nu
 by_cases et:(R.T p).B i=t
 ·have:i=R.r p:=wp.inj hi bp.rm (by rw[et,hp])
  subst this
  have h1:=bq.neg
  rw[hq,←et]at h1
  have h2:=bp.pos
  have h3:(R.T q).c ((R.T p).B (R.r p))*(R.T p).A (R.r p) (R.s p)<0:=by
   have:=Rat.mul_pos (show 0 < -(R.T q).c ((R.T p).B (R.r p)) by grind) h2
   grind
  grind
 ·have a7:(R.T p).B i<t:=by omega
  have nL:0≤(R.T q).c ((R.T p).B i):=bq.first _ (by rw[hq];exact a7)
  have hA:0<(R.T p).A i (R.s p):=by
   false_or_by_contra
   rename_i hn
   have:0≤(R.T q).c ((R.T p).B i)*(-(R.T p).A i (R.s p)):=Rat.mul_nonneg nL (by grind)
   grind
  have Ii:=hd p eV eI
  unfold p6 at Ii
  have e0:(0:Rat)/(R.T p).A (R.r p) (R.s p)=0:=by grind
  have e1:(0:Rat)/(R.T p).A i (R.s p)=0:=by grind
  rcases bp.least i hi hA with h | h
  ·rw[Ii,Nu,e0,e1]at h;exact absurd h (by decide)
  ·have:=h.2;omega
theorem short(t:Nat):∀a b,a≤b→b≤len→(∀k,a≤k→k<b→R.p6 k)→
  (∀k,a≤k→k<b→R.s k<t∧(R.T k).B (R.r k)<t)→b<a+2^t:=by
 induction t with
 | zero=>
  intro a b Ec hb hd a7
  by_cases e:a=b
  ·subst e;simp
  ·have:=a7 a (Nat.le_refl _) (by omega);omega
 | succ t ih=>
  intro a b Ec hb hd a7
  have hle:∀k,a≤k→k<b→R.s k≤t∧(R.T k).B (R.r k)≤t:=fun k h1 h2=>by
   have:=a7 k h1 h2;omega
  have h2:2^(t+1)=2^t+2^t:=by rw[Nat.pow_succ];omega
  have q8:0<2^t:=Nat.pow_pos (by omega)
  have once:∀k l,a≤k→k<l→l<b→(R.s k=t∨(R.T k).B (R.r k)=t)→¬(R.s l=t∨(R.T l).B (R.r l)=t):=by
   intro k l hk Ij hl ic iY
   rcases ic with ic | ic
   ·
    have ct:R.s l=t:=by
     rcases iY with h | h
     ·exact h
     ·exact(R.Ed hb hd hle (p:=l) (q:=k) (by omega) (by omega) (by omega) (by omega) h ic).elim
    have sX:R.basic (k+1) t:=(R.zW (by omega) t).2 (.inl ic.symm)
    have kY:¬R.basic l t:=by rw[←ct];exact R.Ie (by omega)
    obtain⟨x,h1,h2,h3⟩:=R.change (a:=k+1) (b:=l) (by omega) (by omega) t (fun h=>kY (h.1 sX))
    have hx:∀y,k+1≤y→y≤l→R.basic y t:=by
     intro y hy
     induction y with
     | zero=>omega
     | succ y Ik=>
      intro kO
      by_cases e:k=y
      ·subst e;exact sX
      ·have:=Ik (by omega) (by omega)
       refine(R.zW (by omega) t).2 (.inr ⟨this,fun e=> ?_⟩)
       exact R.Ed hb hd hle (p:=y) (q:=k) (by omega) (by omega) (by omega) (by omega) e.symm ic
    exact kY (hx l (by omega) (Nat.le_refl _))
   ·have ct:(R.T l).B (R.r l)=t:=by
     rcases iY with h | h
     ·exact(R.Ed hb hd hle (p:=k) (q:=l) (by omega) (by omega) (by omega) (by omega) ic h).elim
     ·exact h
    have sX:¬R.basic (k+1) t:=by
     rw[R.zW (by omega) t]
     rintro(h | h)
     ·exact R.Ie (k:=k) (by omega) (by rw[←h,←ic];exact R.Ig (by omega))
     ·exact h.2 ic.symm
    have kY:R.basic l t:=by rw[←ct];exact R.Ig (by omega)
    have hx:∀y,k+1≤y→y≤l→¬R.basic y t:=by
     intro y hy
     induction y with
     | zero=>omega
     | succ y Ik=>
      intro kO
      by_cases e:k=y
      ·subst e;exact sX
      ·have:=Ik (by omega) (by omega)
       rw[R.zW (by omega) t]
       rintro(h | h)
       ·exact R.Ed hb hd hle (p:=k) (q:=y) (by omega) (by omega) (by omega) (by omega) ic h.symm
       ·exact this h.1
    exact hx l (by omega) (Nat.le_refl _) kY
  by_cases hex:∃k,a≤k∧k<b∧(R.s k=t∨(R.T k).B (R.r k)=t)
  ·obtain⟨k,fU,gi,dC⟩:=hex
   have h3:=ih a k (by omega) (by omega) (fun x h1 h2=>hd x h1 (by omega)) (fun x h1 h2=>by
    have hl:=hle x h1 (by omega)
    have hn:¬(R.s x=t∨(R.T x).B (R.r x)=t):=fun h=>once x k h1 h2 gi h dC
    omega)
   have h4:=ih (k+1) b (by omega) hb (fun x h1 h2=>hd x (by omega) h2) (fun x h1 h2=>by
    have hl:=hle x (by omega) h2
    have hn:=once k x fU (by omega) h2 dC
    omega)
   omega
  ·have h3:=ih a b Ec hb hd (fun x h1 h2=>by
    have hl:=hle x h1 h2
    have hn:¬(R.s x=t∨(R.T x).B (R.r x)=t):=fun h=>hex ⟨x,h1,h2,h⟩
    omega)
   omega
end oR
end ao
end Lp
namespace Lp
namespace ao
structure gp(T S:ao):Prop where
 m:S.m=T.m
 n:S.n=T.n
 kt:∀x,S.l4 x↔T.l4 x
 cost:∀x,T.l4 x→S.cost x=T.cost x
theorem gp.symm{T S:ao}(h:gp T S):gp S T:=⟨h.m.symm,h.n.symm,fun x=>(h.kt x).symm,fun x hx=>(h.cost x ((h.kt x).1 hx)).symm⟩
theorem gp.trans{T S R:ao}(h:gp T S)(h':gp S R):gp T R:=
 ⟨h'.m.trans h.m,h'.n.trans h.n,fun x=>(h'.kt x).trans (h.kt x),fun x hx=>(h'.cost x ((h.kt x).2 hx)).trans (h.cost x hx)⟩
theorem gp.bP{T:ao}{r s:Nat}(hr:r<T.m)(hp:T.A r s≠0):gp T (T.bP r s):=
 ⟨rfl,rfl,fun x=>HZ hr hp x,fun x hx=>Nm hr x hx⟩
theorem Wi{T S:ao}(h:gp T S)(hT:T.WF)(hS:S.WF)(hB:∀i,i<T.m→S.B i=T.B i):S.c S.n=T.c T.n:=by
 have h1:=sU hT T.n (Nat.le_refl _)
 have h2:=h.cost _ h1
 rw[xt hT T.n (Nat.le_refl _)]at h2
 unfold cost at h2
 rw[h.n,xq T hT.lt _ (Nat.le_refl _),ks]at h2
 ·rw[h.n];grind
 ·intro i hi
  rw[←hB i hi,hS.zero i (by rw[h.m];exact hi)];grind
def zX(n:Nat):Nat→List (List Nat)
 | 0=>[[]]
 | m+1=>(zX n m).flatMap fun l=>(List.range n).map fun j=>l ++ [j]
theorem Wj(n m:Nat)(f:Nat→Nat)(h:∀i,i<m→f i<n):(List.range m).map f∈zX n m:=by
 induction m with
 | zero=>simp[zX]
 | succ m ih=>
  simp only[zX,List.mem_flatMap,List.mem_map,List.mem_range]
  exact⟨_,ih (fun i hi=>h i (by omega)),f m,h m (by omega),by rw[List.range_succ,List.map_append];rfl⟩
theorem Nv{α:Type}(p q:α→Bool)(l:List α)(h:∀x,x∈l→p x=true→q x=true)
  (hx:∃x,x∈l∧q x=true∧p x=false):l.countP p<l.countP q:=by
 induction l with
 | nil=>obtain⟨x,hx,_⟩:=hx;cases hx
 | cons a l ih=>
  have hle:l.countP p≤l.countP q:=List.countP_mono_left fun x hx hp=>h x (List.mem_cons_of_mem _ hx) hp
  rw[List.countP_cons,List.countP_cons]
  obtain⟨x,dD,dQ,eW⟩:=hx
  rcases List.mem_cons.1 dD with e | e
  ·subst e
   rw[dQ,eW];simp;omega
  ·have:=ih (fun y hy=>h y (List.mem_cons_of_mem _ hy)) ⟨x,e,dQ,eW⟩
   have ha:=h a (List.mem_cons_self ..)
   cases hp:p a
   ·simp;omega
   ·rw[ha hp];simp;omega
def Ee(T:ao)(l:List Nat):Prop:=∃S:ao,S.WF∧gp T S∧(List.range T.m).map S.B=l∧T.c T.n<S.c S.n
open Classical in
noncomputable def ra(T:ao):Nat:=(zX T.n T.m).countP fun l=>decide (Ee T l)
theorem Ee.of{T S:ao}(h:gp T S)(hv:T.c T.n≤S.c S.n){l:List Nat}(hb:Ee S l):Ee T l:=by
 obtain⟨R,h1,h2,h3,h4⟩:=hb
 refine⟨R,h1,h.trans h2,by rw[←h.m];exact h3,by grind⟩
open Classical in
theorem Wk{T S:ao}(h:gp T S)(hv:T.c T.n≤S.c S.n):ra S≤ra T:=by
 unfold ra
 rw[h.m,h.n]
 exact List.countP_mono_left fun l _ hp=>by
  have:=of_decide_eq_true hp
  exact decide_eq_true (this.of h hv)
open Classical in
theorem Wl{T S:ao}(h:gp T S)(hS:S.WF)(hv:T.c T.n<S.c S.n):ra S<ra T:=by
 unfold ra
 rw[h.m,h.n]
 refine Nv _ _ _ (fun l _ hp=> ?_) ⟨(List.range T.m).map S.B,?_,?_,?_⟩
 ·have:=of_decide_eq_true hp
  exact decide_eq_true (this.of h (Rat.le_of_lt hv))
 ·exact Wj _ _ _ (fun i hi=>by rw[←h.n];exact hS.lt i (by rw[h.m];exact hi))
 ·exact decide_eq_true ⟨S,hS,h,rfl,hv⟩
 ·refine decide_eq_false ?_
  rintro⟨R,h1,h2,h3,h4⟩
  have:R.c R.n=S.c S.n:=Wi h2 hS h1 (fun i hi=>by
   rw[h.m]at h3 hi
   exact List.map_inj_left.1 h3 i (List.mem_range.2 hi))
  grind
theorem Wm{T:ao}{u r s:Nat}(hf:T.ji)(hb:T.p5 u r s):
  T.c T.n≤(T.bP r s).c (T.bP r s).n∧(T.A r T.n≠0→T.c T.n<(T.bP r s).c (T.bP r s).n):=by
 have e:(T.bP r s).c (T.bP r s).n=T.c T.n-T.c s*(T.A r T.n/T.A r s):=rfl
 rw[e]
 have hq:=Ia (hf r hb.rm) hb.pos
 have hn:=hb.neg
 constructor
 ·have:=Rat.mul_nonneg (show 0≤- T.c s by grind) hq
  grind
 ·intro h0
  have hp:0<T.A r T.n/T.A r s:=by
   have q8:=hb.pos
   have:T.A r T.n/T.A r s≠0:=fun h=>h0 (by
    have:T.A r T.n/T.A r s*T.A r s=T.A r T.n:=by grind
    grind)
   grind
  have:=Rat.mul_pos (show 0 < - T.c s by grind) hp
  grind
def Step(u:Nat)(S T:ao):Prop:=∃r s,T.p5 u r s∧S=T.bP r s
def oR.nil{u:Nat}(T:ao)(hw:T.WF)(hf:T.ji)(hu:u≤T.n):oR u 0:=
 {T:=fun _=>T,r:=fun _=>0,s:=fun _=>0,wf:=hw,cT:=hf,un:=hu
  step:=fun k hk=>absurd hk (by omega),next:=fun k hk=>absurd hk (by omega)}
def oR.snoc{u h:Nat}(R:oR u h)(r s:Nat)(hb:(R.T h).p5 u r s):oR u (h+1):=
 {T:=fun k=>if k≤h then R.T k else(R.T h).bP r s
  r:=fun k=>if k<h then R.r k else r
  s:=fun k=>if k<h then R.s k else s
  wf:=by simpa using R.wf
  cT:=by simpa using R.cT
  un:=by simpa using R.un
  step:=fun k hk=>by
   simp only[show k≤h by omega,if_true]
   by_cases e:k<h
   ·simp only[e,if_true];exact R.step k e
   ·simp only[e,if_false]
    obtain rfl:k=h:=by omega
    exact hb
  next:=fun k hk=>by
   simp only[show k≤h by omega,if_true]
   by_cases e:k<h
   ·simp only[e,if_true,show k+1≤h by omega];exact R.next k e
   ·simp only[e,if_false]
    obtain rfl:k=h:=by omega
    simp only[show ¬(k+1≤k) by omega,if_false]}
theorem ends(u:Nat):∀(v:Nat)(T:ao),T.WF→T.ji→u≤T.n→ra T≤v→Acc (Step u) T:=by
 intro v
 induction v using Nat.strongRecOn with
 | _ v ih=>
  intro T hw hf hu hv
  have key:∀d h (R:oR u h),(∀k,k<h→R.p6 k)→ra (R.T h)≤v→2^(R.T 0).n≤h+d→Acc (Step u) (R.T h):=by
   intro d
   induction d with
   | zero=>
    intro h R hd hr hp
    have:=R.short (R.T 0).n 0 h (by omega) (Nat.le_refl _) (fun k _ hk=>hd k hk) (fun k _ hk=>by
     refine⟨?_,?_⟩
     ·have:=R.sn hk
      rw[R.xA k (by omega)]at this;exact this
     ·have:=(R.sV k (by omega)).lt _ (R.step k hk).rm
      rw[R.xA k (by omega)]at this;exact this)
    omega
   | succ d Wn=>
    intro h R hd hr hp
    refine Acc.intro _ fun S hS=> ?_
    obtain⟨r,s,hb,rfl⟩:=hS
    have Il:=R.sV h (Nat.le_refl _)
    have rb:=R.Wg h (Nat.le_refl _)
    have nE:u≤(R.T h).n:=by rw[R.xA h (Nat.le_refl _)];exact R.un
    have q8:=hb.pos
    have a6:(R.T h).A r s≠0:=by grind
    have oS:s<(R.T h).n:=by have:=hb.su;omega
    have zY:=gp.bP hb.rm a6
    have nN:=Wm rb hb
    by_cases h0:(R.T h).A r (R.T h).n=0
    ·have e:(R.snoc r s hb).T (h+1)=(R.T h).bP r s:=by
      show (if h+1≤h then _ else _)=_
      rw[if_neg (by omega)]
     rw[←e]
     refine Wn (h+1) (R.snoc r s hb) (fun k hk=> ?_) ?_ ?_
     ·unfold oR.p6
      have e1:(R.snoc r s hb).T k=R.T k:=by
       show (if k≤h then _ else _)=_
       rw[if_pos (by omega)]
      rw[e1]
      by_cases ek:k<h
      ·have e2:(R.snoc r s hb).r k=R.r k:=by
        show (if k<h then _ else _)=_
        rw[if_pos ek]
       rw[e2];exact hd k ek
      ·obtain rfl:k=h:=by omega
       have e2:(R.snoc r s hb).r k=r:=by
        show (if k<k then _ else _)=_
        rw[if_neg (by omega)]
       rw[e2];exact h0
     ·rw[e];exact Nat.le_trans (Wk zY nN.1) hr
     ·have e3:(R.snoc r s hb).T 0=R.T 0:=by
       show (if 0≤h then R.T 0 else(R.T h).bP r s)=_
       rw[if_pos (by omega)]
      rw[e3];omega
    ·have a7:=Wl zY (xz Il hb.rm oS a6) (nN.2 h0)
     exact ih (ra ((R.T h).bP r s)) (by omega) _ (xz Il hb.rm oS a6) (Ib rb hb) nE (Nat.le_refl _)
  have:=key (2^T.n) 0 (oR.nil T hw hf hu) (fun k hk=>absurd hk (by omega)) hv (by
   show 2^T.n≤0+2^T.n
   omega)
  exact this
theorem Wo{u:Nat}{T:ao}(hw:T.WF)(hf:T.ji)(hu:u≤T.n):Acc (Step u) T:=ends u _ T hw hf hu (Nat.le_refl _)
end ao
end Lp
namespace Lp
structure LP where
 n:Nat
 m:Nat
 free:Nat→Bool
 a:Nat→Nat→Rat
 rel:Nat→Int
 b:Nat→Rat
def j4(r:Int)(x:Rat):Prop:=(r=1→x≤0)∧(r=2→x=0)∧(r=3→0≤x)
def a5(n:Nat)(c x:Nat→Rat):Rat:=aP n (fun j=>c j*x j)
namespace LP
variable (p:LP)
def Valid:Prop:=∀i,i<p.m→p.rel i=1∨p.rel i=2∨p.rel i=3
def cO(t:Rat)(x:Nat→Rat):Prop:=(∀j,j<p.n→p.free j=false→0≤x j)∧∀i,i<p.m→j4 (p.rel i) (a5 p.n (p.a i) x-p.b i*t)
def Signed(y:Nat→Rat):Prop:=∀i,i<p.m→(p.rel i=3→0≤y i)∧(p.rel i=1→y i≤0)
def gq(y:Nat→Rat)(j:Nat):Rat:=aP p.m (fun i=>y i*p.a i j)
def p7(y:Nat→Rat):Rat:=aP p.m (fun i=>y i*p.b i)
structure sY(c x y:Nat→Rat):Prop where
 cT:p.cO 1 x
 signed:p.Signed y
 gu:∀j,j<p.n→0≤c j-p.gq y j∧(p.free j=true→c j-p.gq y j≤0)
 eq:p.p7 y=a5 p.n c x
structure sZ(y:Nat→Rat):Prop where
 signed:p.Signed y
 gu:∀j,j<p.n→p.gq y j≤0∧(p.free j=true→0≤p.gq y j)
 pos:0<p.p7 y
structure s3(c x r:Nat→Rat):Prop where
 cT:p.cO 1 x
 ray:p.cO 0 r
 neg:a5 p.n c r<0
def zZ:Prop:=∀x,¬p.cO 1 x
def vd(c:Nat→Rat)(v:Rat):Prop:=(∃x,p.cO 1 x∧a5 p.n c x=v)∧∀x,p.cO 1 x→v≤a5 p.n c x
def xB(c:Nat→Rat):Prop:=(∃x,p.cO 1 x)∧∀v,∃x,p.cO 1 x∧a5 p.n c x<v
end LP
theorem Nw(n:Nat)(c x y:Nat→Rat):a5 n c (fun j=>x j+y j)=a5 n c x+a5 n c y:=by
 unfold a5
 rw[←HY]
 exact ec fun j _=>by grind
theorem Nx(n:Nat)(c x:Nat→Rat)(k:Rat):a5 n c (fun j=>k*x j)=k*a5 n c x:=by
 unfold a5
 rw[←q7]
 exact ec fun j _=>by grind
theorem Wp{n:Nat}{c c' x x':Nat→Rat}(h:∀j,j<n→c j=c' j)(h':∀j,j<n→x j=x' j):a5 n c x=a5 n c' x':=
 ec fun j hj=>by rw[h j hj,h' j hj]
namespace LP
variable {p:LP}
theorem Wq(p:LP)(y x:Nat→Rat):a5 p.n (p.gq y) x=aP p.m (fun i=>y i*a5 p.n (p.a i) x):=by
 unfold a5 gq
 have h1:∀j,aP p.m (fun i=>y i*p.a i j)*x j=aP p.m (fun i=>y i*p.a i j*x j):=fun j=>(p4 _ _ _).symm
 have h2:∀i,y i*aP p.n (fun j=>p.a i j*x j)=aP p.n (fun j=>y i*p.a i j*x j):=fun i=>by
  rw[←q7]
  exact ec fun j _=>by grind
 rw[ec (fun j _=>h1 j),ec (fun i _=>h2 i),Ea]
theorem Ny(hv:p.Valid){t:Rat}{x y:Nat→Rat}(hx:p.cO t x)(hy:p.Signed y):p.p7 y*t≤a5 p.n (p.gq y) x:=by
 rw[Wq]
 unfold p7
 rw[←p4]
 refine Eb fun i hi=> ?_
 have h1:=hx.2 i hi
 have h2:=hy i hi
 rcases hv i hi with e | e | e
 ·have h3:=h1.1 e
  have h4:=h2.2 e
  have h5:0≤(- y i)*(- (a5 p.n (p.a i) x-p.b i*t)):=Rat.mul_nonneg (by grind) (by grind)
  grind
 ·have h3:=h1.2.1 e
  have:a5 p.n (p.a i) x=p.b i*t:=by grind
  rw[this];grind
 ·have h3:=h1.2.2 e
  have h4:=h2.1 e
  have h5:0≤y i*(a5 p.n (p.a i) x-p.b i*t):=Rat.mul_nonneg h4 h3
  grind
theorem sZ.isInf(hv:p.Valid){y:Nat→Rat}(h:p.sZ y):p.zZ:=fun x hx=>by
 have h1:=Ny hv hx h.signed
 have h2:a5 p.n (p.gq y) x≤0:=by
  have:a5 p.n (p.gq y) x≤aP p.n (fun _=>0):=Eb fun j hj=>by
   have h3:=h.gu j hj
   cases hf:p.free j with
   | true=>have h4:=h3.2 hf;have:p.gq y j=0:=by grind
           rw[this];grind
   | false=>
    have h5:=hx.1 j hj hf
    have:0≤(- p.gq y j)*x j:=Rat.mul_nonneg (by grind) h5
    grind
  rwa [D9]at this
 have:=h.pos
 grind
theorem below{c x y:Nat→Rat}(hv:p.Valid)(hx:p.cO 1 x)(hy:p.Signed y)(hc:∀j,j<p.n→0≤c j-p.gq y j∧(p.free j=true→c j-p.gq y j≤0)):p.p7 y≤a5 p.n c x:=by
 have h1:=Ny hv hx hy
 have h2:a5 p.n (p.gq y) x≤a5 p.n c x:=Eb fun j hj=>by
  have h3:=hc j hj
  cases hf:p.free j with
  | true=>have h4:=h3.2 hf;have:p.gq y j=c j:=by grind
          rw[this];exact Rat.le_refl
  | false=>
   have h5:=hx.1 j hj hf
   have:0≤(c j-p.gq y j)*x j:=Rat.mul_nonneg h3.1 h5
   grind
 grind
theorem sY.Im(hv:p.Valid){c x y:Nat→Rat}(h:p.sY c x y):p.vd c (a5 p.n c x):=
 ⟨⟨x,h.cT,rfl⟩,fun x' oo=>by rw[←h.eq];exact below hv oo h.signed h.gu⟩
theorem Wr{r:Int}{x y:Rat}(hx:j4 r x)(hy:j4 r y):j4 r (x+y):=
 ⟨fun e=>by have:=hx.1 e;have:=hy.1 e;grind,fun e=>by have:=hx.2.1 e;have:=hy.2.1 e;grind,fun e=>by have:=hx.2.2 e;have:=hy.2.2 e;grind⟩
theorem Ws{r:Int}{x k:Rat}(hx:j4 r x)(hk:0≤k):j4 r (k*x):=
 ⟨fun e=>by have:=hx.1 e;have:0≤k*(-x):=Rat.mul_nonneg hk (by grind)
            grind,fun e=>by have:=hx.2.1 e;rw[this];grind,fun e=>Rat.mul_nonneg hk (hx.2.2 e)⟩
theorem cO.move{t:Rat}{x r:Nat→Rat}(hx:p.cO t x)(hr:p.cO 0 r){k:Rat}(hk:0≤k):p.cO t (fun j=>x j+k*r j):=by
 refine⟨fun j hj hf=> ?_,fun i hi=> ?_⟩
 ·have h1:=hx.1 j hj hf
  have h2:=Rat.mul_nonneg hk (hr.1 j hj hf)
  grind
 ·have h1:=Wr (hx.2 i hi) (Ws (hr.2 i hi) hk)
  rw[Nw,Nx]
  have e:a5 p.n (p.a i) x-p.b i*t+k*(a5 p.n (p.a i) r-p.b i*0)=a5 p.n (p.a i) x+k*a5 p.n (p.a i) r-p.b i*t:=by grind
  rwa [e]at h1
theorem s3.Nz{c x r:Nat→Rat}(h:p.s3 c x r):p.xB c:=by
 refine⟨⟨x,h.cT⟩,fun v=> ?_⟩
 have hn:=h.neg
 by_cases hv:a5 p.n c x<v
 ·exact⟨x,h.cT,hv⟩
 ·have hd:0 < - a5 p.n c r:=by grind
  have hq:0≤(a5 p.n c x-v)/(- a5 p.n c r):=ao.Ia (by grind) hd
  refine⟨_,h.cT.move h.ray (k:=(a5 p.n c x-v)/(- a5 p.n c r)+1) (by grind),?_⟩
  rw[Nw,Nx]
  have e:(a5 p.n c x-v)/(- a5 p.n c r)*(- a5 p.n c r)=a5 p.n c x-v:=by grind
  grind
theorem Wt{c:Nat→Rat}{v:Rat}(h:p.vd c v)(k:p.xB c):False:=by
 obtain⟨x,hx,a7⟩:=k.2 v
 have:=h.2 x hx
 grind
theorem Wu{c:Nat→Rat}{v w:Rat}(h:p.vd c v)(k:p.vd c w):v=w:=by
 obtain⟨⟨x,hx,rfl⟩,h2⟩:=h
 obtain⟨⟨y,hy,rfl⟩,k2⟩:=k
 have h3:=h2 y hy
 have h4:=k2 x hx
 grind
end LP
def eS(f:Nat→Rat):Option Nat→Rat
 | some k=>f k
 | none=>0
structure cP(p:LP)(A:Nat→Nat→Rat)(w u:Nat)(plus:Nat→Nat)(minus slack:Nat→Option Nat)(unit:Nat→Nat)(sg:Nat→Rat):Prop where
 valid:p.Valid
 uw:u≤w
 NA:∀i,i<p.m→sg i=1∨sg i = -1
 rhs:∀i,i<p.m→A i w=p.b i*sg i∧0≤A i w
 pl:∀j,j<p.n→plus j<u∧∀i,i<p.m→A i (plus j)=p.a i j*sg i
 mi:∀j,j<p.n→(p.free j=false→minus j=none)∧∀k,minus j=some k→k<u∧∀i,i<p.m→A i k = - (p.a i j*sg i)
 Io:∀j,j<p.n→p.free j=true→∃k,minus j=some k
 sl:∀i,i<p.m→(p.rel i=2→slack i=none)∧(p.rel i≠2→∃k,slack i=some k)∧∀k,slack i=some k→k<u∧∀q,q<p.m→A q k=if q=i then(if p.rel i=1 then sg i else-sg i)else 0
 un:∀i,i<p.m→unit i<w∧∀q,q<p.m→A q (unit i)=if q=i then 1 else 0
 sum:∀f,aP u f=aP p.n (fun j=>f (plus j)+eS f (minus j))+aP p.m (fun i=>eS f (slack i))
namespace cP
variable {p:LP} {A:Nat→Nat→Rat} {w u:Nat} {plus:Nat→Nat} {minus slack:Nat→Option Nat} {unit:Nat→Nat} {sg:Nat→Rat}
theorem NB{u w:Nat}(h:u≤w)(f:Nat→Rat)(h0:∀j,u≤j→j<w→f j=0):aP w f=aP u f:=by
 induction w with
 | zero=>obtain rfl:u=0:=by omega
         rfl
 | succ w ih=>
  by_cases e:u=w+1
  ·rw[e]
  ·rw[eu,ih (by omega) (fun j h1 h2=>h0 j h1 (by omega)),h0 w (by omega) (by omega)];grind
def vec(plus:Nat→Nat)(minus:Nat→Option Nat)(z:Nat→Rat)(j:Nat):Rat:=z (plus j)-eS z (minus j)
theorem meets(L:cP p A w u plus minus slack unit sg){z:Nat→Rat}{t:Rat}(hs:∀i,i<p.m→aP (w+1) (fun j=>A i j*z j)=0)(hw:z w = - t)
  (hn:∀j,j<u→0≤z j) (ha:∀j,u≤j→j<w→z j=0):p.cO t (vec plus minus z):=by
 refine⟨fun j hj hf=> ?_,fun i hi=> ?_⟩
 ·unfold vec
  rw[(L.mi j hj).1 hf]
  have:=hn _ (L.pl j hj).1
  simp only[eS];grind
 ·have h1:=hs i hi
  rw[eu,hw,NB L.uw _ (fun j h1 h2=>by rw[ha j h1 h2];grind),L.sum]at h1
  have h2:aP p.n (fun j=>A i (plus j)*z (plus j)+eS (fun k=>A i k*z k) (minus j))=a5 p.n (p.a i) (vec plus minus z)*sg i:=by
   unfold a5
   rw[←p4]
   refine ec fun j hj=> ?_
   rw[(L.pl j hj).2 i hi]
   unfold vec
   cases hm:minus j with
   | none=>simp only[eS];grind
   | some k=>
    have:=((L.mi j hj).2 k hm).2 i hi
    simp only[eS,this];grind
  rw[h2]at h1
  have h3:aP p.m (fun q=>eS (fun k=>A i k*z k) (slack q))=eS (fun k=>A i k*z k) (slack i):=by
   refine nM hi _ fun q hq a6=> ?_
   cases hm:slack q with
   | none=>rfl
   | some k=>
    have:=((L.sl q hq).2.2 k hm).2 i hi
    rw[if_neg (fun e=>a6 e.symm)]at this
    simp only[eS,this];grind
  rw[h3,(L.rhs i hi).1]at h1
  have jE:=L.NA i hi
  have gw:=L.sl i hi
  have key:∀s:Rat,a5 p.n (p.a i) (vec plus minus z)*sg i+s*sg i+p.b i*sg i * -t=0→a5 p.n (p.a i) (vec plus minus z)-p.b i*t = - s:=by
   intro s hs
   rcases jE with e | e <;> rw[e]at hs <;> grind
  rcases L.valid i hi with e | e | e
  ·obtain⟨k,hk⟩:=gw.2.1 (by omega)
   have h4:=gw.2.2 k hk
   have h5:=h4.2 i hi
   rw[if_pos rfl,if_pos e]at h5
   have h6:=hn k h4.1
   rw[hk]at h1
   simp only[eS,h5]at h1
   have h7:=key (z k) (by grind)
   exact⟨fun _=>by grind,fun e'=>by omega,fun e'=>by omega⟩
  ·rw[gw.1 e]at h1
   simp only[eS]at h1
   have h7:=key 0 (by grind)
   exact⟨fun e'=>by omega,fun _=>by grind,fun e'=>by omega⟩
  ·obtain⟨k,hk⟩:=gw.2.1 (by omega)
   have h4:=gw.2.2 k hk
   have h5:=h4.2 i hi
   rw[if_pos rfl,if_neg (by omega)]at h5
   have h6:=hn k h4.1
   rw[hk]at h1
   simp only[eS,h5]at h1
   have h7:=key (- z k) (by grind)
   exact⟨fun e'=>by omega,fun e'=>by omega,fun _=>by grind⟩
def oT(A:Nat→Nat→Rat)(m w:Nat)(c0 c:Nat→Rat):Prop:=∃l:Nat→Rat,∀j,j≤w→c j=c0 j-aP m (fun k=>l k*A k j)
section
variable (L:cP p A w u plus minus slack unit sg) {c0 c:Nat→Rat} (ho:oT A p.m w c0 c)
include L ho
theorem Ip:(∀j,j<p.n→p.gq (fun i=>sg i*(c0 (unit i)-c (unit i))) j=c0 (plus j)-c (plus j)∧∀k,minus j=some k→p.gq (fun i=>sg i*(c0 (unit i)-c (unit i))) j=c k-c0 k)
  ∧p.p7 (fun i=>sg i*(c0 (unit i)-c (unit i)))=c0 w-c w∧(∀i,i<p.m→∀k,slack i=some k→sg i*(c0 (unit i)-c (unit i))=if p.rel i=1 then c0 k-c k else c k-c0 k):=by
 obtain⟨l,hl⟩:=ho
 have hu:∀i,i<p.m→c0 (unit i)-c (unit i)=l i:=fun i hi=>by
  have h1:=L.un i hi
  rw[hl _ (by omega),nM hi (fun k=>l k*A k (unit i)) (fun q hq a6=>by rw[h1.2 q hq,if_neg a6];grind),h1.2 i hi,if_pos rfl];grind
 refine⟨fun j hj=>⟨?_,fun k hk=> ?_⟩,?_,fun i hi k hk=> ?_⟩
 ·have h1:=L.pl j hj
  have a7:=L.uw
  rw[hl _ (by omega)]
  unfold LP.gq
  rw[ec (g:=fun k=>l k*A k (plus j)) (fun i hi=>by show sg i*(c0 (unit i)-c (unit i))*_=_;rw[hu i hi,h1.2 i hi];grind)]
  grind
 ·have h1:=(L.mi j hj).2 k hk
  have a7:=L.uw
  rw[hl _ (by omega)]
  unfold LP.gq
  rw[ec (g:=fun q=> - (l q*A q k)) (fun i hi=>by show sg i*(c0 (unit i)-c (unit i))*_=_;rw[hu i hi,h1.2 i hi];grind),D8]
  grind
 ·rw[hl _ (Nat.le_refl _)]
  unfold LP.p7
  rw[ec (g:=fun k=>l k*A k w) (fun i hi=>by show sg i*(c0 (unit i)-c (unit i))*_=_;rw[hu i hi,(L.rhs i hi).1];grind)]
  grind
 ·have h1:=(L.sl i hi).2.2 k hk
  have a7:=L.uw
  rw[hu i hi,hl k (by omega),nM hi (fun q=>l q*A q k) (fun q hq a6=>by rw[h1.2 q hq,if_neg a6];grind),h1.2 i hi,if_pos rfl]
  split <;> grind
theorem NC(h0:∀i,i<p.m→∀k,slack i=some k→c0 k=0)(hn:∀j,j<u→0≤c j):p.Signed (fun i=>sg i*(c0 (unit i)-c (unit i))):=fun i hi=>by
 have h1:=(Ip L ho).2.2 i hi
 refine⟨fun e=> ?_,fun e=> ?_⟩
 ·obtain⟨k,hk⟩:=(L.sl i hi).2.1 (by omega)
  have h2:=h1 k hk
  have h3:=hn k ((L.sl i hi).2.2 k hk).1
  rw[if_neg (by omega),h0 i hi k hk]at h2
  simp only[h2];grind
 ·obtain⟨k,hk⟩:=(L.sl i hi).2.1 (by omega)
  have h2:=h1 k hk
  have h3:=hn k ((L.sl i hi).2.2 k hk).1
  rw[if_pos e,h0 i hi k hk]at h2
  simp only[h2];grind
theorem Wv(h0:∀j,j<u→c0 j=0)(hw:c0 w=0)(hn:∀j,j<u→0≤c j)(fN:c w<0):p.sZ (fun i=>sg i*(c0 (unit i)-c (unit i))):=by
 have hd:=Ip L ho
 refine⟨NC L ho (fun i hi k hk=>h0 k ((L.sl i hi).2.2 k hk).1) hn,fun j hj=>⟨?_,fun hf=> ?_⟩,?_⟩
 ·have h1:=L.pl j hj
  rw[(hd.1 j hj).1,h0 _ h1.1]
  have:=hn _ h1.1
  grind
 ·obtain⟨k,hk⟩:=L.Io j hj hf
  have h1:=(L.mi j hj).2 k hk
  rw[(hd.1 j hj).2 k hk,h0 k h1.1]
  have:=hn _ h1.1
  grind
 ·rw[hd.2.1,hw];grind
end
end cP
end Lp
namespace Lp
namespace ao
structure Rows(A:Nat→Nat→Rat)(m' w:Nat)(T:ao):Prop where
 m:T.m=m'
 n:T.n=w
 mul:∃R:Nat→Nat→Rat,∀i,i<m'→∀j,j≤w→T.A i j=aP m' (fun k=>R i k*A k j)
 kt:∀x,T.l4 x↔∀i,i<m'→aP (w+1) (fun j=>A i j*x j)=0
section
variable {A:Nat→Nat→Rat} {m w:Nat} {T:ao}
theorem Ww(hA:∀i j,T.A i j=A i j)(hm:T.m=m)(hn:T.n=w):Rows A m w T:=by
 refine⟨hm,hn,⟨fun i k=>if k=i then 1 else 0,fun i hi j _=> ?_⟩,fun x=> ?_⟩
 ·rw[nM hi (fun k=>(if k=i then 1 else 0)*A k j) (fun q _ a6=>by rw[if_neg a6];grind),if_pos rfl,hA];grind
 ·unfold l4
  rw[hm,hn]
  constructor
  ·intro h i hi
   rw[←h i hi]
   exact ec fun j _=>by rw[hA]
  ·intro h i hi
   rw[←h i hi]
   exact ec fun j _=>by rw[hA]
theorem Rows.bP(h:Rows A m w T){r s:Nat}(hr:r<m)(hp:T.A r s≠0):Rows A m w (T.bP r s):=by
 obtain⟨R,hR⟩:=h.mul
 refine⟨h.m,h.n,⟨fun i k=>if i=r then R r k/T.A r s else R i k-T.A i s*(R r k/T.A r s),fun i hi j hj=> ?_⟩,fun x=> ?_⟩
 ·have e1:aP m (fun k=>R r k/T.A r s*A k j)=T.A r j/T.A r s:=by
   rw[hR r hr j hj,Rat.div_def,←p4]
   exact ec fun k _=>by grind
  by_cases e:i=r
  ·simp only[ao.bP,if_pos e]
   exact e1.symm
  ·simp only[ao.bP,if_neg e]
   rw[←e1,hR i hi j hj,←q7,←zU]
   exact ec fun k _=>by grind
 ·rw[HZ (by rw[h.m];exact hr) hp,h.kt]
theorem Rows.off(h:Rows A m w T)(c0 f:Nat→Rat){c:Nat→Rat}(hc:∀j,j≤w→c j=c0 j-aP m (fun i=>f i*T.A i j)):cP.oT A m w c0 c:=by
 obtain⟨R,hR⟩:=h.mul
 refine⟨fun k=>aP m (fun i=>f i*R i k),fun j hj=> ?_⟩
 rw[hc j hj]
 congr 1
 rw[ec (g:=fun i=>aP m (fun k=>f i*R i k*A k j)) (fun i hi=>by rw[hR i hi j hj,←q7];exact ec fun k _=>by grind),Ea]
 exact ec fun k _=>p4 _ _ _
theorem Rows.ND(h:Rows A m w T){c0:Nat→Rat}(ho:cP.oT A m w c0 T.c){r s:Nat}(hr:r<m):cP.oT A m w c0 (T.bP r s).c:=by
 obtain⟨R,hR⟩:=h.mul
 obtain⟨l,hl⟩:=ho
 refine⟨fun k=>l k+T.c s*(R r k/T.A r s),fun j hj=> ?_⟩
 show T.c j-T.c s*(T.A r j/T.A r s)=_
 have e1:aP m (fun k=>R r k/T.A r s*A k j)=T.A r j/T.A r s:=by
  rw[hR r hr j hj,Rat.div_def,←p4]
  exact ec fun k _=>by grind
 have e2:aP m (fun k=>(l k+T.c s*(R r k/T.A r s))*A k j)=aP m (fun k=>l k*A k j)+T.c s*aP m (fun k=>R r k/T.A r s*A k j):=by
  rw[←q7,←HY]
  exact ec fun k _=>by grind
 rw[e2,e1,hl j hj]
 grind
theorem Rows.cost(h:Rows A m w T){c0:Nat→Rat}(ho:cP.oT A m w c0 T.c){x:Nat→Rat}(hx:T.l4 x):T.cost x=aP (w+1) (fun j=>c0 j*x j):=by
 obtain⟨l,hl⟩:=ho
 unfold ao.cost
 rw[h.n]
 have e1:aP (w+1) (fun j=>aP m (fun k=>l k*A k j)*x j)=0:=by
  rw[ec (g:=fun j=>aP m (fun k=>l k*(A k j*x j))) (fun j _=>by rw[←p4];exact ec fun k _=>by grind),Ea]
  refine ks fun k hk=> ?_
  rw[q7,(h.kt x).1 hx k hk];grind
 rw[ec (g:=fun j=>c0 j*x j-aP m (fun k=>l k*A k j)*x j) (fun j hj=>by rw[hl j (by omega)];grind),zU,e1]
 grind
end
def pt(T:ao)(j:Nat):Rat:=if j=T.n then -1 else aP T.m (fun i=>if T.B i=j then T.A i T.n else 0)
section
variable {T:ao}
theorem NF(h:T.WF)(j:Nat):T.pt j = - T.dir T.n j:=by
 unfold pt dir
 by_cases e:j=T.n
 ·rw[if_pos e,if_pos e,ks]
  ·grind
  ·intro i hi
   have:=h.lt i hi
   rw[if_neg (by omega)]
 ·rw[if_neg e,if_neg e];grind
theorem Iq(h:T.WF):T.l4 T.pt:=fun i hi=>by
 have:=sU h T.n (Nat.le_refl _) i hi
 rw[ec (g:=fun j=> - (T.A i j*T.dir T.n j)) (fun j _=>by rw[NF h];grind),D8,this];grind
theorem NG(h:T.WF):T.cost T.pt = - T.c T.n:=by
 have:=xt h T.n (Nat.le_refl _)
 unfold cost at this⊢
 rw[ec (g:=fun j=> - (T.c j*T.dir T.n j)) (fun j _=>by rw[NF h];grind),D8,this]
theorem Ir(h:T.WF){i:Nat}(hi:i<T.m):T.pt (T.B i)=T.A i T.n:=by
 have:=h.lt i hi
 unfold pt
 rw[if_neg (by omega),nM hi,if_pos rfl]
 intro k hk a6
 rw[if_neg (fun e=>a6 (h.inj hk hi e))]
theorem NH(hf:T.ji){j:Nat}(hj:j<T.n):0≤T.pt j:=by
 unfold pt
 rw[if_neg (by omega)]
 refine zV fun i hi=> ?_
 split
 ·exact hf i hi
 ·exact Rat.le_refl
theorem Is{j:Nat}(hj:j<T.n)(h:∀i,i<T.m→T.B i=j→T.A i T.n=0):T.pt j=0:=by
 unfold pt
 rw[if_neg (by omega)]
 refine ks fun i hi=> ?_
 split
 ·rename_i e;exact h i hi e
 ·rfl
theorem NI{s:Nat}(h:∀i,i<T.m→T.A i s≤0)(j:Nat):0≤T.dir s j:=by
 unfold dir
 have h1:0≤aP T.m (fun i=> - (if T.B i=j then T.A i s else 0)):=zV fun i hi=>by
  split
  ·have:=h i hi;grind
  ·grind
 rw[D8]at h1
 split <;> grind
theorem Wx(h:T.WF){s:Nat}(hs:s<T.n):T.dir s T.n=0:=by
 unfold dir
 rw[if_neg (by omega),ks]
 ·grind
 ·intro i hi
  have:=h.lt i hi
  rw[if_neg (by omega)]
theorem Wy{s j:Nat}(hj:j≠s)(h:∀i,i<T.m→T.B i=j→T.A i s=0):T.dir s j=0:=by
 unfold dir
 rw[if_neg hj,ks]
 ·grind
 ·intro i hi
  split
  ·rename_i e;exact h i hi e
  ·rfl
end
def gY(u w j:Nat):Rat:=if u≤j∧j<w then 1 else 0
theorem NJ(u w j:Nat):0≤gY u w j:=by
 unfold gY;split <;> grind
theorem Wz{u w j:Nat}(h:j<u):gY u w j=0:=by
 unfold gY;rw[if_neg (by omega)]
theorem NK(u w:Nat):gY u w w=0:=by
 unfold gY;rw[if_neg (by omega)]
section
variable {A:Nat→Nat→Rat} {m w u:Nat} {T:ao}
theorem WA(hW:T.WF)(h:Rows A m w T)(ho:cP.oT A m w (gY u w) T.c){s:Nat}(hs:s<w)(fN:T.c s<0)(hA:∀i,i<T.m→T.A i s≤0):False:=by
 have h1:=xt hW s (by rw[h.n];omega)
 rw[h.cost ho (sU hW s (by rw[h.n];omega))]at h1
 have h2:0≤aP (w+1) (fun j=>gY u w j*T.dir s j):=zV fun j _=>Rat.mul_nonneg (NJ u w j) (NI hA j)
 grind
theorem WB{n k:Nat}(f:Nat→Rat)(h:∀i,i<n→0≤f i)(hk:k<n):f k≤aP n f:=by
 induction n with
 | zero=>omega
 | succ n ih=>
  rw[eu]
  have h0:=h n (by omega)
  by_cases e:k=n
  ·subst e
   have:0≤aP k f:=zV fun i hi=>h i (by omega)
   grind
  ·have:=ih (fun i hi=>h i (by omega)) (by omega)
   grind
theorem WC(hW:T.WF)(hF:T.ji)(h:Rows A m w T)(ho:cP.oT A m w (gY u w) T.c)(hv:0≤T.c w):T.c w=0∧∀i,i<T.m→u≤T.B i→T.A i T.n=0:=by
 have h1:=NG hW
 rw[h.cost ho (Iq hW),h.n]at h1
 have h0:∀j,j<w+1→0≤gY u w j*T.pt j:=fun j hj=>by
  by_cases e:j=w
  ·subst e;rw[NK];grind
  ·exact Rat.mul_nonneg (NJ u w j) (NH hF (by rw[h.n];omega))
 have h2:=zV h0
 refine⟨by grind,fun i hi hu=> ?_⟩
 have a7:=hW.lt i hi
 have h3:=WB _ h0 (k:=T.B i) (by rw[h.n]at a7;omega)
 have NL:=a7
 rw[h.n]at NL
 rw[Ir hW hi]at h3
 have e:gY u w (T.B i)=1:=by unfold gY;rw[if_pos ⟨hu,NL⟩]
 rw[e]at h3
 have:=hF i hi
 grind
end
structure Clean(u k:Nat)(T:ao):Prop where
 zero:∀i,i<T.m→u≤T.B i→T.A i T.n=0
 row:∀i,i<k→i<T.m→u≤T.B i→∀j,j<u→T.A i j=0
section
variable {u k:Nat} {T:ao}
theorem Clean.start(h:∀i,i<T.m→u≤T.B i→T.A i T.n=0):Clean u 0 T:=⟨h,fun i hi=>by omega⟩
theorem Clean.skip(h:Clean u k T)(hk:T.B k<u∨∀j,j<u→T.A k j=0):Clean u (k+1) T:=by
 refine⟨h.zero,fun i hi hm hu=> ?_⟩
 by_cases e:i=k
 ·subst e
  rcases hk with hk | hk
  ·omega
  ·exact hk
 ·exact h.row i (by omega) hm hu
theorem Clean.WD(h:Clean u k T)(hk:k<T.m)(hu:u≤T.B k){s:Nat}(hs:s<u):Clean u (k+1) (T.bP k s):=by
 have hz:=h.zero k hk hu
 refine⟨fun i hi hb=> ?_,fun i hi hm hb j hj=> ?_⟩
 ·have eJ:i<T.m:=hi
  simp only[ao.bP]at hb⊢
  by_cases e:i=k
  ·rw[if_pos e]at hb;omega
  ·rw[if_neg e]at hb⊢
   rw[h.zero i eJ hb,hz,Rat.div_def];grind
 ·have aV:i<T.m:=hm
  simp only[ao.bP]at hb⊢
  by_cases e:i=k
  ·rw[if_pos e]at hb;omega
  ·rw[if_neg e]at hb⊢
   rw[h.row i (by omega) aV hb j hj,h.row i (by omega) aV hb s hs];grind
theorem Clean.cT(h:Clean u k T)(hF:T.ji)(hk:k<T.m)(hu:u≤T.B k)(s:Nat):(T.bP k s).ji:=fun i hi=>by
 have eJ:i<T.m:=hi
 have hz:=h.zero k hk hu
 have h1:=hF i eJ
 show 0≤(if i=k then T.A k T.n/T.A k s else T.A i T.n-T.A i s*(T.A k T.n/T.A k s))
 rw[hz]
 split
 ·rw[Rat.div_def];grind
 ·rw[Rat.div_def];grind
theorem Clean.WE(h:Clean u T.m T){r s:Nat}(hb:T.p5 u r s):Clean u (T.bP r s).m (T.bP r s):=by
 have hr:T.B r<u:=by
  false_or_by_contra
  have:=h.row r hb.rm hb.rm (by omega) s hb.su
  have:=hb.pos
  grind
 have hs:=hb.su
 refine⟨fun i hi hu=> ?_,fun i _ hi hu j hj=> ?_⟩
 ·have eJ:i<T.m:=hi
  simp only[ao.bP]at hu⊢
  by_cases e:i=r
  ·rw[if_pos e]at hu;omega
  ·rw[if_neg e]at hu⊢
   rw[h.zero i eJ hu,h.row i eJ eJ hu s hs];grind
 ·have eJ:i<T.m:=hi
  simp only[ao.bP]at hu⊢
  by_cases e:i=r
  ·rw[if_pos e]at hu;omega
  ·rw[if_neg e]at hu⊢
   rw[h.row i eJ eJ hu j hj,h.row i eJ eJ hu s hs];grind
end
structure z4(p:LP)(w:Nat)(plus:Nat→Nat)(minus slack:Nat→Option Nat)(c c0:Nat→Rat):Prop where
 pl:∀j,j<p.n→c0 (plus j)=c j
 mi:∀j,j<p.n→∀k,minus j=some k→c0 k = - c j
 sl:∀i,i<p.m→∀k,slack i=some k→c0 k=0
 last:c0 w=0
section
variable {p:LP} {A:Nat→Nat→Rat} {w u:Nat} {plus:Nat→Nat} {minus slack:Nat→Option Nat} {unit:Nat→Nat} {sg c c0:Nat→Rat} {T:ao}
theorem NM(L:cP p A w u plus minus slack unit sg)(hc:z4 p w plus minus slack c c0){z:Nat→Rat}(ha:∀j,u≤j→j<w→z j=0):
  aP (w+1) (fun j=>c0 j*z j)=a5 p.n c (cP.vec plus minus z):=by
 rw[eu,hc.last,cP.NB L.uw _ (fun j h1 h2=>by rw[ha j h1 h2];grind),L.sum]
 have h1:aP p.m (fun i=>eS (fun j=>c0 j*z j) (slack i))=0:=ks fun i hi=>by
  cases hs:slack i with
  | none=>rfl
  | some k=>simp only[eS];rw[hc.sl i hi k hs];grind
 rw[h1]
 unfold a5 cP.vec
 have h2:aP p.n (fun j=>c0 (plus j)*z (plus j)+eS (fun j=>c0 j*z j) (minus j))=aP p.n (fun j=>c j*(z (plus j)-eS z (minus j))):=ec fun j hj=>by
  rw[hc.pl j hj]
  cases hm:minus j with
  | none=>simp only[eS];grind
  | some k=>simp only[eS];rw[hc.mi j hj k hm];grind
 rw[h2];grind
theorem NN(hC:Clean u T.m T){j:Nat}(h1:u≤j)(h2:j<T.n):T.pt j=0:=Is h2 fun i hi e=>hC.zero i hi (by omega)
theorem NO(L:cP p A w u plus minus slack unit sg)(hW:T.WF)(hF:T.ji)(h:Rows A p.m w T)(hC:Clean u T.m T):p.cO 1 (cP.vec plus minus T.pt):=by
 have hu:=L.uw
 refine L.meets ((h.kt _).1 (Iq hW)) ?_ (fun j hj=>NH hF (by rw[h.n];omega)) (fun j h1 h2=>NN hC h1 (by rw[h.n];omega))
 unfold pt
 rw[if_pos h.n.symm]
theorem NP(L:cP p A w u plus minus slack unit sg)(hW:T.WF)(h:Rows A p.m w T)(hC:Clean u T.m T)(hc:z4 p w plus minus slack c c0)(ho:cP.oT A p.m w c0 T.c):
  a5 p.n c (cP.vec plus minus T.pt) = - T.c w:=by
 rw[←NM L hc (fun j h1 h2=>NN hC h1 (by rw[h.n];omega)),←h.cost ho (Iq hW),NG hW,h.n]
theorem WG(L:cP p A w u plus minus slack unit sg)(hW:T.WF)(hF:T.ji)(h:Rows A p.m w T)(hC:Clean u T.m T)(hc:z4 p w plus minus slack c c0)(ho:cP.oT A p.m w c0 T.c)(hn:∀j,j<u→0≤T.c j):
  p.sY c (cP.vec plus minus T.pt) (fun i=>sg i*(c0 (unit i)-T.c (unit i))):=by
 have hd:=cP.Ip L ho
 refine⟨NO L hW hF h hC,cP.NC L ho (fun i hi k hk=>hc.sl i hi k hk) hn,fun j hj=>⟨?_,fun hf=> ?_⟩,?_⟩
 ·have h1:=L.pl j hj
  rw[(hd.1 j hj).1,hc.pl j hj]
  have:=hn _ h1.1
  grind
 ·obtain⟨k,hk⟩:=L.Io j hj hf
  have h1:=(L.mi j hj).2 k hk
  rw[(hd.1 j hj).2 k hk,hc.mi j hj k hk]
  have:=hn _ h1.1
  grind
 ·rw[hd.2.1,hc.last,NP L hW h hC hc ho];grind
theorem WH(L:cP p A w u plus minus slack unit sg)(hW:T.WF)(hF:T.ji)(h:Rows A p.m w T)(hC:Clean u T.m T)(hc:z4 p w plus minus slack c c0)(ho:cP.oT A p.m w c0 T.c){s:Nat}(hs:s<u)(fN:T.c s<0)
  (hA:∀i,i<T.m→T.A i s≤0):p.s3 c (cP.vec plus minus T.pt) (cP.vec plus minus (T.dir s)):=by
 have hu:=L.uw
 have oS:s<T.n:=by rw[h.n];omega
 have ha:∀j,u≤j→j<w→T.dir s j=0:=fun j h1 h2=>Wy (by omega) fun i hi e=>hC.row i hi hi (by omega) s hs
 refine⟨NO L hW hF h hC,L.meets ((h.kt _).1 (sU hW s (by omega))) ?_ (fun j _=>NI hA j) ha,?_⟩
 ·have:=Wx hW oS
  rw[h.n]at this
  rw[this];grind
 ·rw[←NM L hc ha,←h.cost ho (sU hW s (by omega)),xt hW s (by omega)]
  exact fN
end
end ao
end Lp
namespace Lp
structure Prg where
 free:List Bool
 rows:List (List Rat×Int×Rat)
def fn(l:List Rat)(j:Nat):Rat:=l.getD j 0
theorem iu{l:List Rat}{j:Nat}{q:Rat}(h:l[j]? = some q):fn l j=q:=by simp[fn,List.getD,h]
theorem WI{l:List Rat}{j:Nat}(h:l.length≤j):fn l j=0:=by simp[fn,List.getD,List.getElem?_eq_none h]
def Prg.row(p:Prg)(i:Nat):List Rat×Int×Rat:=p.rows.getD i ([],0,0)
theorem Prg.jF{p:Prg}{i:Nat}{r:List Rat×Int×Rat}(h:p.rows[i]? = some r):p.row i=r:=by simp[Prg.row,List.getD,h]
def Prg.lp(p:Prg):LP:=⟨p.free.length,p.rows.length,fun j=>p.free.getD j false,fun i j=>fn (p.row i).1 j,fun i=>(p.row i).2.1,fun i=>(p.row i).2.2⟩
theorem Prg.NQ{p:Prg}{j:Nat}{b:Bool}(h:p.free[j]? = some b):p.lp.free j=b:=by simp[Prg.lp,List.getD,h]
def NR(n:Nat)(r:List Rat×Int×Rat):Prop:=r.1.length=n∧(r.2.1=1∨r.2.1=2∨r.2.1=3)
structure Prg.Ok(p:Prg):Prop where
 gu:p.free.length≤400
 rows:p.rows.length≤800
 row:∀(i:Nat)(r:List Rat×Int×Rat),p.rows[i]? = some r→NR p.free.length r
theorem Prg.Ok.valid{p:Prg}(h:p.Ok):p.lp.Valid:=fun i hi=>by
 have eJ:i<p.rows.length:=hi
 have:=(h.row i _ (List.getElem?_eq_getElem eJ)).2
 show (p.row i).2.1=1∨(p.row i).2.1=2∨(p.row i).2.1=3
 rwa [Prg.jF (List.getElem?_eq_getElem eJ)]
structure vf(p:Prg)(x:List Rat):Prop where
 ok:p.Ok
 len:x.length=p.free.length
 meets:p.lp.cO 1 (fn x)
structure xC(p:Prg)(c x y:List Rat):Prop where
 cT:vf p x
 Ef:c.length=p.free.length
 Eg:y.length=p.rows.length
 cert:p.lp.sY (fn c) (fn x) (fn y)
structure Eh(p:Prg)(y:List Rat):Prop where
 ok:p.Ok
 Eg:y.length=p.rows.length
 cert:p.lp.sZ (fn y)
structure Ei(p:Prg)(c x r:List Rat):Prop where
 cT:vf p x
 Ef:c.length=p.free.length
 ku:r.length=p.free.length
 cert:p.lp.s3 (fn c) (fn x) (fn r)
structure mL where
 status:Int
 value:Rat
 x:List Rat
 fw:List Rat
 ray:List Rat
def nO(p:Prg)(c:List Rat)(s:mL):Prop:=
 (s.status=1∧s.ray = []∧xC p c s.x s.fw∧s.value=a5 p.free.length (fn c) (fn s.x))∨
 (s.status=2∧s.value=0∧s.x = []∧s.ray = []∧c.length=p.free.length∧Eh p s.fw)∨
 (s.status=3∧s.value=0∧s.fw = []∧Ei p c s.x s.ray)
theorem nO.Ej{p:Prg}{c:List Rat}{s:mL}(h:nO p c s):(s.status=1∧p.lp.vd (fn c) s.value)∨(s.status=2∧p.lp.zZ∧s.value=0)∨(s.status=3∧p.lp.xB (fn c)∧s.value=0):=by
 rcases h with ⟨h1,_,h2,h3⟩ | ⟨h1,h2,_,_,_,h3⟩ | ⟨h1,h2,_,h3⟩
 ·exact .inl ⟨h1,by rw[h3];exact h2.cert.Im h2.cT.ok.valid⟩
 ·exact .inr (.inl ⟨h1,h3.cert.isInf h3.ok.valid,h2⟩)
 ·exact .inr (.inr ⟨h1,h3.cert.Nz,h2⟩)
theorem nO.Ek{p:Prg}{c:List Rat}{S:mL}(h:nO p c S)(e:S.status=1):S.ray = []∧xC p c S.x S.fw∧S.value=a5 p.free.length (fn c) (fn S.x):=by
 rcases h with ⟨_,h⟩ | ⟨h1,_⟩ | ⟨h1,_⟩
 ·exact h
 ·omega
 ·omega
theorem nO.NS{p:Prg}{c:List Rat}{S:mL}(h:nO p c S)(e:S.status=2):S.value=0∧S.x = []∧S.ray = []∧c.length=p.free.length∧Eh p S.fw:=by
 rcases h with ⟨h1,_⟩ | ⟨_,h⟩ | ⟨h1,_⟩
 ·omega
 ·exact h
 ·omega
theorem nO.WJ{p:Prg}{c:List Rat}{S:mL}(h:nO p c S)(e:S.status=3):S.value=0∧S.fw = []∧Ei p c S.x S.ray:=by
 rcases h with ⟨h1,_⟩ | ⟨h1,_⟩ | ⟨_,h⟩
 ·omega
 ·omega
 ·exact h
end Lp
namespace Go.ar
open Go.Proofs Num
theorem WK(p q:Rat):((p.num*(q.den:Int)+q.num*(p.den:Int):Int):Rat)/(((p.den:Int)*(q.den:Int):Int):Rat)=p+q:=by
 have h1:=pW p
 have h2:=pW q
 have h3:=xi p
 have h4:=xi q
 rw[Rat.intCast_add,Rat.intCast_mul,Rat.intCast_mul,Rat.intCast_mul]
 grind
theorem WL(p q:Rat):((p.num*q.num:Int):Rat)/(((p.den:Int)*(q.den:Int):Int):Rat)=p*q:=by
 have h1:=pW p
 have h2:=pW q
 have h3:=xi p
 have h4:=xi q
 rw[Rat.intCast_mul,Rat.intCast_mul]
 grind
theorem WM{q:Rat}(h:q≠0):((q.num:Int):Rat)≠0:=fun e=>h (by
 have:q.num=0:=by exact_mod_cast e
 exact Rat.num_eq_zero.1 this)
theorem NT(p:Rat){q:Rat}(h:q≠0):((p.num*(q.den:Int):Int):Rat)/(((p.den:Int)*q.num:Int):Rat)=p/q:=by
 have h1:=pW p
 have h2:=pW q
 have h3:=xi p
 have h4:=xi q
 have h5:=WM h
 rw[Rat.intCast_mul,Rat.intCast_mul]
 grind
theorem WN(p:Rat){q:Rat}(h:q≠0):((-p.num*(q.den:Int):Int):Rat)/((-(p.den:Int)*q.num:Int):Rat)=p/q:=by
 rw[←NT p h,Int.neg_mul,Int.neg_mul,Rat.intCast_neg,Rat.intCast_neg]
 grind
theorem NU{H:Heap}{us vs:List Value}{p q:Rat}{N:Nat}(hu:aZ H us p)(hv:aZ H vs q)(h1:aK p≤N)(h2:aK q≤N)(hN:(N:Int)≤1099511627776):
 Fn Tryz.prog 91 #[.agg us.toArray,.agg vs.toArray] H (nJ H (p+q)):=by
 obtain⟨n1,d1,b1,rfl,dZ⟩:=id hu
 obtain⟨n2,d2,b2,rfl,bU⟩:=id hv;refine aW (args:=[_,_]) Tryz.func91 rfl rfl Tryz.ntmps91 rfl rfl fun w0=> ?_;refine aj [0,1] rfl ?_;refine af (bY rfl rfl (bY rfl rfl (bD dd rfl (ae [2,3,4] ?_))));refine aq ?_
 cases j5:q6 n1 d1 b1
 ·
  skip
  refine af (ab 1 rfl (au rfl rfl (lj) ?_));rintro v1 H1 ⟨e1,rfl⟩;rw[e1,j5];refine ab 4 rfl (ae [2,3,4,10] ?_);refine dG rfl (ax (aj [2,3,4] rfl ?_));refine cg .bR [0,2,1,3,4,5,6] follows (by kernel_rfl) ?_;refine ab 2 rfl (aT rfl rfl (nK hu) (fun _ _ h=>by first | exact h.le | exact h.1) ?_);rintro w1 G1 ⟨dT,bQ⟩;obtain⟨u1,x1,rfl,dz,dD⟩:=id bQ;obtain⟨jZ,j0,rfl,j1,j2⟩:=id dz;obtain⟨pX,pY,rfl,pZ,p3⟩:=id dD;refine aT rfl rfl (nK (hv.le dT)) (fun _ _ h=>by first | exact h.le | exact h.1) ?_;rintro w2 G2 ⟨cR,bF⟩;obtain⟨u2,x2,rfl,eo,dQ⟩:=id bF;obtain⟨lS,lT,rfl,lU,lV⟩:=id eo;obtain⟨lW,lX,rfl,lY,lZ⟩:=id dQ;refine aT rfl rfl (Na (N:=N) ((bQ.le cR).raw.mono h1) (bF.raw.mono h2) hN) (fun _ _ h=>by first | exact h.le | exact h.1) ?_;rintro w3 G3 ⟨kv,gx⟩;obtain⟨u3,x3,rfl,mM,eW⟩:=id gx;obtain⟨xD,xE,rfl,xF,xG⟩:=id mM;obtain⟨xH,xI,rfl,xJ,xK⟩:=id eW;refine aT rfl rfl (sS gx) (fun _ _ h=>by first | exact h.le | exact h.1) ?_;rintro w4 G4 ⟨gK,vg,rfl,cJ⟩;obtain⟨n4,d4,b4,rfl,_⟩:=id cJ;obtain⟨ti,ak,al⟩:=bI;refine aM (.inl ⟨rfl,rfl⟩) rfl rfl rfl ak al rfl rfl rfl (ae [4] ?_);obtain⟨bO,aI,aJ⟩:=bI;refine aw ⟨.inr rfl,_,.agg rfl Tryz.underlying61 aI aJ (.nil),?_⟩
  exact⟨((dT.trans cR).trans kv).trans gK,_,rfl,cJ⟩
 ·
  skip
  cases j6:q6 n2 d2 b2
  ·
   skip
   refine af (ab 1 rfl (au rfl rfl (lj) ?_));rintro v1 H1 ⟨e1,rfl⟩;rw[e1,j5];refine ab 2 rfl (au rfl rfl (lj) ?_);rintro v1 H1 ⟨e1,rfl⟩;rw[e1,j6];refine ab 1 rfl (ae [2,3,4,10] ?_);refine dG rfl (ax (aj [2,3,4] rfl ?_));refine cg .bR [0,2,1,3,4,5,6] follows (by kernel_rfl) ?_;refine ab 2 rfl (aT rfl rfl (nK hu) (fun _ _ h=>by first | exact h.le | exact h.1) ?_);rintro w1 G1 ⟨dT,bQ⟩;obtain⟨u1,x1,rfl,dz,dD⟩:=id bQ;obtain⟨jZ,j0,rfl,j1,j2⟩:=id dz;obtain⟨pX,pY,rfl,pZ,p3⟩:=id dD;refine aT rfl rfl (nK (hv.le dT)) (fun _ _ h=>by first | exact h.le | exact h.1) ?_;rintro w2 G2 ⟨cR,bF⟩;obtain⟨u2,x2,rfl,eo,dQ⟩:=id bF;obtain⟨lS,lT,rfl,lU,lV⟩:=id eo;obtain⟨lW,lX,rfl,lY,lZ⟩:=id dQ;refine aT rfl rfl (Na (N:=N) ((bQ.le cR).raw.mono h1) (bF.raw.mono h2) hN) (fun _ _ h=>by first | exact h.le | exact h.1) ?_;rintro w3 G3 ⟨kv,gx⟩;obtain⟨u3,x3,rfl,mM,eW⟩:=id gx;obtain⟨xD,xE,rfl,xF,xG⟩:=id mM;obtain⟨xH,xI,rfl,xJ,xK⟩:=id eW;refine aT rfl rfl (sS gx) (fun _ _ h=>by first | exact h.le | exact h.1) ?_;rintro w4 G4 ⟨gK,vg,rfl,cJ⟩;obtain⟨n4,d4,b4,rfl,_⟩:=id cJ;obtain⟨ti,ak,al⟩:=bI;refine aM (.inl ⟨rfl,rfl⟩) rfl rfl rfl ak al rfl rfl rfl ?_
   refine ae [4] ?_;obtain⟨bO,aI,aJ⟩:=bI;refine aw ⟨.inr rfl,_,.agg rfl Tryz.underlying61 aI aJ (.nil),?_⟩;exact⟨((dT.trans cR).trans kv).trans gK,_,rfl,cJ⟩
  obtain⟨rfl,k1,k2,k3⟩:=u6.1 j5;obtain⟨rfl,k4,k5,k6⟩:=u6.1 j6;obtain⟨-,rfl,rfl,-⟩:=dZ.resolve_right (by rintro⟨ad,f,u,w,h,_⟩;cases h);obtain⟨-,rfl,rfl,-⟩:=bU.resolve_right (by rintro⟨ad,f,u,w,h,_⟩;cases h);have eV:=den_pos p;have eI:=den_pos q;have m1:=uZ (a:=p.num) (b:=q.den) k1 k2 (by omega) k6;have m2:=uZ (a:=q.num) (b:=p.den) k4 k5 (by omega) k3;have m3:=uZ (a:=p.den) (b:=q.den) (by omega) k3 (by omega) k6;have m4:0<(p.den:Int)*(q.den:Int):=Int.mul_pos (by omega) (by omega);refine af (ab 1 rfl (au rfl rfl (lj) ?_));rintro v1 H1 ⟨e1,rfl⟩;rw[e1,j5];refine ab 2 rfl (au rfl rfl (lj) ?_);rintro v1 H1 ⟨e1,rfl⟩;rw[e1,j6];refine ab 1 rfl (ae [2,3,4,10] ?_);refine eL rfl (af (ab 4 rfl (gG rfl rfl ⟨by omega,by omega⟩ (ab 4 rfl (gG rfl rfl ⟨by omega,by omega⟩ (aO rfl rfl ⟨by omega,by omega⟩ (ab 4 rfl (gG rfl rfl ⟨by omega,by omega⟩ (au rfl rfl (D5 (by omega) (by omega) m4 (by omega)) ?_)))))))));rintro w1 G1 ⟨dT,z5,rfl,bQ⟩;rw[WK]at bQ;obtain⟨n1,d1,b1,rfl,_⟩:=id bQ;obtain⟨ti,ak,al⟩:=bI;refine aM (.inl ⟨rfl,rfl⟩) rfl rfl rfl ak al rfl rfl rfl (ae [4] ?_)
  obtain⟨bO,aI,aJ⟩:=bI;refine aw ⟨.inr rfl,_,.agg rfl Tryz.underlying61 aI aJ (.nil),?_⟩;exact⟨dT,_,rfl,bQ⟩
theorem vh{H:Heap}{us vs:List Value}{p q:Rat}{N:Nat}(hu:aZ H us p)(hv:aZ H vs q)(h1:aK p≤N)(h2:aK q≤N)(hN:(N:Int)≤1099511627776):
 Fn Tryz.prog 64 #[.agg us.toArray,.agg vs.toArray] H (nJ H (p*q)):=by
 obtain⟨n1,d1,b1,rfl,dZ⟩:=id hu
 obtain⟨n2,d2,b2,rfl,bU⟩:=id hv;refine aW (args:=[_,_]) Tryz.func64 rfl rfl Tryz.ntmps64 rfl rfl fun w0=> ?_;refine aj [0,1] rfl ?_;refine af (bY rfl rfl (bY rfl rfl (bD dd rfl (ae [2,3,4] ?_))));refine aq ?_
 cases j5:q6 n1 d1 b1
 ·
  skip
  refine af (ab 1 rfl (au rfl rfl (lj) ?_));rintro v1 H1 ⟨e1,rfl⟩;rw[e1,j5];refine ab 4 rfl (ae [2,3,4,10] ?_);refine dG rfl (ax (aj [2,3,4] rfl ?_));refine cg .bR [0,2,1,3,4,5,6] follows (by kernel_rfl) ?_;refine ab 2 rfl (aT rfl rfl (nK hu) (fun _ _ h=>by first | exact h.le | exact h.1) ?_);rintro w1 G1 ⟨dT,bQ⟩;obtain⟨u1,x1,rfl,dz,dD⟩:=id bQ;obtain⟨jZ,j0,rfl,j1,j2⟩:=id dz;obtain⟨pX,pY,rfl,pZ,p3⟩:=id dD;refine aT rfl rfl (nK (hv.le dT)) (fun _ _ h=>by first | exact h.le | exact h.1) ?_;rintro w2 G2 ⟨cR,bF⟩;obtain⟨u2,x2,rfl,eo,dQ⟩:=id bF;obtain⟨lS,lT,rfl,lU,lV⟩:=id eo;obtain⟨lW,lX,rfl,lY,lZ⟩:=id dQ;refine aT rfl rfl (HR (N:=N) ((bQ.le cR).raw.mono h1) (bF.raw.mono h2) hN) (fun _ _ h=>by first | exact h.le | exact h.1) ?_;rintro w3 G3 ⟨kv,gx⟩;obtain⟨u3,x3,rfl,mM,eW⟩:=id gx;obtain⟨xD,xE,rfl,xF,xG⟩:=id mM;obtain⟨xH,xI,rfl,xJ,xK⟩:=id eW;refine aT rfl rfl (sS gx) (fun _ _ h=>by first | exact h.le | exact h.1) ?_;rintro w4 G4 ⟨gK,vg,rfl,cJ⟩;obtain⟨n4,d4,b4,rfl,_⟩:=id cJ;obtain⟨ti,ak,al⟩:=bI;refine aM (.inl ⟨rfl,rfl⟩) rfl rfl rfl ak al rfl rfl rfl (ae [4] ?_);obtain⟨bO,aI,aJ⟩:=bI;refine aw ⟨.inr rfl,_,.agg rfl Tryz.underlying61 aI aJ (.nil),?_⟩
  exact⟨((dT.trans cR).trans kv).trans gK,_,rfl,cJ⟩
 ·
  skip
  cases j6:q6 n2 d2 b2
  ·
   skip
   refine af (ab 1 rfl (au rfl rfl (lj) ?_));rintro v1 H1 ⟨e1,rfl⟩;rw[e1,j5];refine ab 2 rfl (au rfl rfl (lj) ?_);rintro v1 H1 ⟨e1,rfl⟩;rw[e1,j6];refine ab 1 rfl (ae [2,3,4,10] ?_);refine dG rfl (ax (aj [2,3,4] rfl ?_));refine cg .bR [0,2,1,3,4,5,6] follows (by kernel_rfl) ?_;refine ab 2 rfl (aT rfl rfl (nK hu) (fun _ _ h=>by first | exact h.le | exact h.1) ?_);rintro w1 G1 ⟨dT,bQ⟩;obtain⟨u1,x1,rfl,dz,dD⟩:=id bQ;obtain⟨jZ,j0,rfl,j1,j2⟩:=id dz;obtain⟨pX,pY,rfl,pZ,p3⟩:=id dD;refine aT rfl rfl (nK (hv.le dT)) (fun _ _ h=>by first | exact h.le | exact h.1) ?_;rintro w2 G2 ⟨cR,bF⟩;obtain⟨u2,x2,rfl,eo,dQ⟩:=id bF;obtain⟨lS,lT,rfl,lU,lV⟩:=id eo;obtain⟨lW,lX,rfl,lY,lZ⟩:=id dQ;refine aT rfl rfl (HR (N:=N) ((bQ.le cR).raw.mono h1) (bF.raw.mono h2) hN) (fun _ _ h=>by first | exact h.le | exact h.1) ?_;rintro w3 G3 ⟨kv,gx⟩;obtain⟨u3,x3,rfl,mM,eW⟩:=id gx;obtain⟨xD,xE,rfl,xF,xG⟩:=id mM;obtain⟨xH,xI,rfl,xJ,xK⟩:=id eW;refine aT rfl rfl (sS gx) (fun _ _ h=>by first | exact h.le | exact h.1) ?_;rintro w4 G4 ⟨gK,vg,rfl,cJ⟩;obtain⟨n4,d4,b4,rfl,_⟩:=id cJ;obtain⟨ti,ak,al⟩:=bI;refine aM (.inl ⟨rfl,rfl⟩) rfl rfl rfl ak al rfl rfl rfl ?_
   refine ae [4] ?_;obtain⟨bO,aI,aJ⟩:=bI;refine aw ⟨.inr rfl,_,.agg rfl Tryz.underlying61 aI aJ (.nil),?_⟩;exact⟨((dT.trans cR).trans kv).trans gK,_,rfl,cJ⟩
  obtain⟨rfl,k1,k2,k3⟩:=u6.1 j5;obtain⟨rfl,k4,k5,k6⟩:=u6.1 j6;obtain⟨-,rfl,rfl,-⟩:=dZ.resolve_right (by rintro⟨ad,f,u,w,h,_⟩;cases h);obtain⟨-,rfl,rfl,-⟩:=bU.resolve_right (by rintro⟨ad,f,u,w,h,_⟩;cases h);have eV:=den_pos p;have eI:=den_pos q;have m1:=uZ (a:=p.num) (b:=q.num) k1 k2 k4 k5;have m3:=uZ (a:=p.den) (b:=q.den) (by omega) k3 (by omega) k6;have m4:0<(p.den:Int)*(q.den:Int):=Int.mul_pos (by omega) (by omega);refine af (ab 1 rfl (au rfl rfl (lj) ?_));rintro v1 H1 ⟨e1,rfl⟩;rw[e1,j5];refine ab 2 rfl (au rfl rfl (lj) ?_);rintro v1 H1 ⟨e1,rfl⟩;rw[e1,j6];refine ab 1 rfl (ae [2,3,4,10] ?_);refine eL rfl (af (ab 4 rfl (gG rfl rfl ⟨by omega,by omega⟩ (ab 4 rfl (gG rfl rfl ⟨by omega,by omega⟩ (au rfl rfl (D5 (by omega) (by omega) m4 (by omega)) ?_))))));rintro w1 G1 ⟨dT,z5,rfl,bQ⟩;rw[WL]at bQ;obtain⟨n1,d1,b1,rfl,_⟩:=id bQ;obtain⟨ti,ak,al⟩:=bI;refine aM (.inl ⟨rfl,rfl⟩) rfl rfl rfl ak al rfl rfl rfl (ae [4] ?_);obtain⟨bO,aI,aJ⟩:=bI;refine aw ⟨.inr rfl,_,.agg rfl Tryz.underlying61 aI aJ (.nil),?_⟩;exact⟨dT,_,rfl,bQ⟩
theorem vi{H:Heap}{us vs:List Value}{p q:Rat}{N:Nat}(hu:aZ H us p)(hv:aZ H vs q)(h1:aK p≤N)(h2:aK q≤N)(hN:(N:Int)≤1099511627776):
 Fn Tryz.prog 54 #[.agg us.toArray,.agg vs.toArray] H (nJ H (p-q)):=by
 obtain⟨n1,d1,b1,rfl,dZ⟩:=id hu
 obtain⟨n2,d2,b2,rfl,bU⟩:=id hv
 have oS:=xh q;refine aW (args:=[_,_]) Tryz.func54 rfl rfl Tryz.ntmps54 rfl rfl fun w0=> ?_;refine aj [0,1] rfl ?_;refine af (bY rfl rfl (bY rfl rfl (bD dd rfl (ae [2,3,4] ?_))));refine cg .bR [0,1,2,3,4] follows (by kernel_rfl) ?_;refine ab 2 rfl (aT rfl rfl (xn hv (by omega)) (fun _ _ h=>by first | exact h.le | exact h.1) ?_);rintro w1 G1 ⟨dT,z5,rfl,bQ⟩;obtain⟨n1,d1,b1,rfl,_⟩:=id bQ;refine aT rfl rfl (NU (hu.le dT) bQ h1 (by omega) hN) (fun _ _ h=>by first | exact h.le | exact h.1) ?_;rintro w2 G2 ⟨cR,zT,rfl,bF⟩;rw[←Rat.sub_eq_add_neg]at bF;obtain⟨n2,d2,b2,rfl,_⟩:=id bF;obtain⟨ti,ak,al⟩:=bI;refine aM (.inl ⟨rfl,rfl⟩) rfl rfl rfl ak al rfl rfl rfl (ae [4] ?_);obtain⟨bO,aI,aJ⟩:=bI;refine aw ⟨.inr rfl,_,.agg rfl Tryz.underlying61 aI aJ (.nil),?_⟩;exact⟨dT.trans cR,_,rfl,bF⟩
theorem NV{H:Heap}{us vs:List Value}{p q:Rat}{N:Nat}(hu:aZ H us p)(hv:aZ H vs q)(h1:aK p≤N)(h2:aK q≤N)(hN:(N:Int)≤1099511627776)(hq:q≠0):
 Fn Tryz.prog 62 #[.agg us.toArray,.agg vs.toArray] H (nJ H (p/q)):=by
 obtain⟨n1,d1,b1,rfl,dZ⟩:=id hu
 obtain⟨n2,d2,b2,rfl,bU⟩:=id hv;refine aW (args:=[_,_]) Tryz.func62 rfl rfl Tryz.ntmps62 rfl rfl fun w0=> ?_;refine aj [0,1] rfl ?_;refine af (bY rfl rfl (bY rfl rfl (bD dd rfl (ae [2,3,4] ?_))));refine aq ?_
 cases j5:q6 n1 d1 b1
 ·
  skip
  refine af (ab 1 rfl (au rfl rfl (lj) ?_));rintro v1 H1 ⟨e1,rfl⟩;rw[e1,j5];refine ab 4 rfl (ae [2,3,4,12] ?_);refine dG rfl (ax (aj [2,3,4] rfl ?_));refine cg .bR [0,2,1,3,4,5,6,7,8,9,10] follows (by kernel_rfl) ?_;refine ab 2 rfl (aT rfl rfl (nK hu) (fun _ _ h=>by first | exact h.le | exact h.1) ?_);rintro w1 G1 ⟨dT,bQ⟩;obtain⟨u1,x1,rfl,dz,dD⟩:=id bQ;obtain⟨jZ,j0,rfl,j1,j2⟩:=id dz;obtain⟨pX,pY,rfl,pZ,p3⟩:=id dD;refine aT rfl rfl (nK (hv.le dT)) (fun _ _ h=>by first | exact h.le | exact h.1) ?_;rintro w2 G2 ⟨cR,bF⟩;obtain⟨u2,x2,rfl,eo,dQ⟩:=id bF;obtain⟨lS,lT,rfl,lU,lV⟩:=id eo;obtain⟨lW,lX,rfl,lY,lZ⟩:=id dQ;refine aT rfl rfl (Nb (N:=N) ((bQ.le cR).raw.mono h1) (bF.raw.mono h2) hN) (fun _ _ h=>by first | exact h.le | exact h.1) ?_;rintro w3 G3 ⟨kv,r3,rfl,gx⟩;obtain⟨u3,x3,rfl,mM,eW⟩:=id gx;obtain⟨xD,xE,rfl,xF,xG⟩:=id mM;obtain⟨xH,xI,rfl,xJ,xK⟩:=id eW;refine ab 3 rfl (bD cZ rfl ?_);obtain⟨ti,ak,al⟩:=bT;refine aM (.inl ⟨rfl,rfl⟩) rfl rfl rfl ak al rfl rfl rfl (ab 1 rfl (ae [4,5] ?_));refine af (ab 1 rfl (au rfl rfl (sS gx) ?_))
  rintro w4 G4 ⟨gK,vg,rfl,cJ⟩;obtain⟨n4,d4,b4,rfl,_⟩:=id cJ;obtain⟨ti,ak,al⟩:=bI;refine aM (.inl ⟨rfl,rfl⟩) rfl rfl rfl ak al rfl rfl rfl (ae [4] ?_);obtain⟨bO,aI,aJ⟩:=bI;refine aw ⟨.inr rfl,_,.agg rfl Tryz.underlying61 aI aJ (.nil),?_⟩;exact⟨((dT.trans cR).trans kv).trans gK,_,rfl,cJ⟩
 ·
  skip
  cases j6:q6 n2 d2 b2
  ·
   skip
   refine af (ab 1 rfl (au rfl rfl (lj) ?_));rintro v1 H1 ⟨e1,rfl⟩;rw[e1,j5];refine ab 2 rfl (au rfl rfl (lj) ?_);rintro v1 H1 ⟨e1,rfl⟩;rw[e1,j6];refine ab 1 rfl (ae [2,3,4,12] ?_);refine dG rfl (ax (aj [2,3,4] rfl ?_));refine cg .bR [0,2,1,3,4,5,6,7,8,9,10] follows (by kernel_rfl) ?_;refine ab 2 rfl (aT rfl rfl (nK hu) (fun _ _ h=>by first | exact h.le | exact h.1) ?_);rintro w1 G1 ⟨dT,bQ⟩;obtain⟨u1,x1,rfl,dz,dD⟩:=id bQ;obtain⟨jZ,j0,rfl,j1,j2⟩:=id dz;obtain⟨pX,pY,rfl,pZ,p3⟩:=id dD;refine aT rfl rfl (nK (hv.le dT)) (fun _ _ h=>by first | exact h.le | exact h.1) ?_;rintro w2 G2 ⟨cR,bF⟩;obtain⟨u2,x2,rfl,eo,dQ⟩:=id bF;obtain⟨lS,lT,rfl,lU,lV⟩:=id eo;obtain⟨lW,lX,rfl,lY,lZ⟩:=id dQ;refine aT rfl rfl (Nb (N:=N) ((bQ.le cR).raw.mono h1) (bF.raw.mono h2) hN) (fun _ _ h=>by first | exact h.le | exact h.1) ?_;rintro w3 G3 ⟨kv,r3,rfl,gx⟩;obtain⟨u3,x3,rfl,mM,eW⟩:=id gx;obtain⟨xD,xE,rfl,xF,xG⟩:=id mM;obtain⟨xH,xI,rfl,xJ,xK⟩:=id eW;refine ab 3 rfl (bD cZ rfl ?_);obtain⟨ti,ak,al⟩:=bT;refine aM (.inl ⟨rfl,rfl⟩) rfl rfl rfl ak al rfl rfl rfl (vr 1 ?_)
   refine ae [4,5] ?_;refine af (ab 1 rfl (au rfl rfl (sS gx) ?_));rintro w4 G4 ⟨gK,vg,rfl,cJ⟩;obtain⟨n4,d4,b4,rfl,_⟩:=id cJ;obtain⟨ti,ak,al⟩:=bI;refine aM (.inl ⟨rfl,rfl⟩) rfl rfl rfl ak al rfl rfl rfl (ae [4] ?_);obtain⟨bO,aI,aJ⟩:=bI;refine aw ⟨.inr rfl,_,.agg rfl Tryz.underlying61 aI aJ (.nil),?_⟩;exact⟨((dT.trans cR).trans kv).trans gK,_,rfl,cJ⟩
  obtain⟨rfl,k1,k2,k3⟩:=u6.1 j5;obtain⟨rfl,k4,k5,k6⟩:=u6.1 j6;obtain⟨-,rfl,rfl,-⟩:=dZ.resolve_right (by rintro⟨ad,f,u,w,h,_⟩;cases h);obtain⟨-,rfl,rfl,-⟩:=bU.resolve_right (by rintro⟨ad,f,u,w,h,_⟩;cases h);have eV:=den_pos p;have eI:=den_pos q;have hqn:q.num≠0:=fun e=>hq (Rat.num_eq_zero.1 e);have m1:=uZ (a:=p.num) (b:=q.den) k1 k2 (by omega) k6;have m3:=uZ (a:=p.den) (b:=q.num) (by omega) k3 k4 k5;refine af (ab 1 rfl (au rfl rfl (lj) ?_));rintro v1 H1 ⟨e1,rfl⟩;rw[e1,j5];refine ab 2 rfl (au rfl rfl (lj) ?_);rintro v1 H1 ⟨e1,rfl⟩;rw[e1,j6];refine ab 1 rfl (ae [2,3,4,12] ?_);refine eL rfl (aq (af (ab 3 rfl (ae [2,3,4,15] ?_))));refine az rfl (fun hb=> ?_) (fun hb=> ?_)
  ·
   have hb:q.num<0:=by simpa using hb
   have m4:0 < -(p.den:Int)*q.num:=by rw[Int.neg_mul,←Int.mul_neg];exact Int.mul_pos (by omega) (by omega)
   have e1: -p.num*(q.den:Int) = -(p.num*(q.den:Int)):=Int.neg_mul _ _;have e2: -(p.den:Int)*q.num = -((p.den:Int)*q.num):=Int.neg_mul _ _;refine af (ab 2 rfl (wF rfl ⟨by omega,by omega⟩ (ab 2 rfl (gG rfl rfl ⟨by omega,by omega⟩ (ab 2 rfl (wF rfl ⟨by omega,by omega⟩ (ab 2 rfl (gG rfl rfl ⟨by omega,by omega⟩ (au rfl rfl (D5 (by omega) (by omega) m4 (by omega)) ?_)))))))));rintro w1 G1 ⟨dT,z5,rfl,bQ⟩;rw[WN p hq]at bQ;obtain⟨n1,d1,b1,rfl,_⟩:=id bQ;obtain⟨ti,ak,al⟩:=bI;refine aM (.inl ⟨rfl,rfl⟩) rfl rfl rfl ak al rfl rfl rfl (ae [4] ?_);obtain⟨bO,aI,aJ⟩:=bI;refine aw ⟨.inr rfl,_,.agg rfl Tryz.underlying61 aI aJ (.nil),?_⟩;exact⟨dT,_,rfl,bQ⟩
  have hb:0<q.num:=by have:=of_decide_eq_false hb;omega
  have m4:0<(p.den:Int)*q.num:=Int.mul_pos (by omega) hb;refine ax (aj [2,3,4] rfl ?_);refine af (ab 4 rfl (gG rfl rfl ⟨by omega,by omega⟩ (ab 4 rfl (gG rfl rfl ⟨by omega,by omega⟩ (au rfl rfl (D5 (by omega) (by omega) m4 (by omega)) ?_)))));rintro w1 G1 ⟨dT,z5,rfl,bQ⟩;rw[NT p hq]at bQ;obtain⟨n1,d1,b1,rfl,_⟩:=id bQ;obtain⟨ti,ak,al⟩:=bI;refine aM (.inl ⟨rfl,rfl⟩) rfl rfl rfl ak al rfl rfl rfl (ae [4] ?_);obtain⟨bO,aI,aJ⟩:=bI;refine aw ⟨.inr rfl,_,.agg rfl Tryz.underlying61 aI aJ (.nil),?_⟩;exact⟨dT,_,rfl,bQ⟩
end Go.ar
