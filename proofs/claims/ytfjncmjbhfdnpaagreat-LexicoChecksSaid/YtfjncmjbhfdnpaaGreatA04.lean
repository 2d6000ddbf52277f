/- Part 4 of the proof: Num1, Lp, Sx, Sy, Prg. -/
import Derived.Test.YtfjncmjbhfdnpaaGreatA03
set_option linter.unusedVariables false
namespace Go.ay
open Go.Proofs Num
theorem pa:Tryz.prog.underlying 88=some (.pointer (Tryz.prog.pointee 88)):=by
 unfold Program.pointee;rw[Tryz.underlying88]
theorem qR{H:Heap}{g:Nat}{xs:List Value}{e i:Nat}{v:Value}(h:xs[i]? = some v):cell (ins H g (whole xs e)) ((⟨g,0,none⟩:Addr).add i)=some v:=by
 simp[cell,kQ,ins,whole,h]
theorem Ht{H:Heap}{g:Nat}{x:Value}{xs:List Value}{e:Nat}:cell (ins H g (whole (x::xs) e)) ⟨g,0,none⟩=some x:=by
 simp[cell,ins,whole]
theorem Hu{H:Heap}{ad:Addr}{a b c:Value}(h0:cell H ad=some a)(h1:cell H (ad.add 1)=some b)(h2:cell H (ad.add 2)=some c):∀(i:Nat)(v:Value),[a,b,c][i]? = some v→cell H (ad.add i)=some v:=by
 intro i v hv
 match i with
 | 0=>simp only[List.getElem?_cons_zero,Option.some.injEq]at hv;subst hv;simpa [Addr.add]using h0
 | 1=>simp only[List.getElem?_cons_succ,List.getElem?_cons_zero,Option.some.injEq]at hv;subst hv;exact h1
 | 2=>simp only[List.getElem?_cons_succ,List.getElem?_cons_zero,Option.some.injEq]at hv;subst hv;exact h2
 | n+3=>simp at hv
theorem yl{a b:Int}(h1: -2147483647≤a)(h2:a≤2147483647)(h3: -2147483647≤b)(h4:b≤2147483647): -4611686014132420609≤a*b∧a*b≤4611686014132420609:=by
 have h5:(a*b).natAbs≤2147483647*2147483647:=by rw[Int.natAbs_mul];exact Nat.mul_le_mul (by omega) (by omega)
 omega
theorem sj(p:Rat):(p.num:Rat)/((p.den:Int):Rat)=p:=by
 have:=Rat.mkRat_self p
 rwa [Rat.mkRat_eq_div]at this
theorem AM(p:Rat):((p.den:Int):Rat)≠0:=fun e=>p.den_nz (by exact_mod_cast e)
theorem den_pos(p:Rat):0<p.den:=Nat.pos_of_ne_zero p.den_nz
theorem lowest{n d:Int}(hd:0<d):(((n:Rat)/(d:Rat)).num=n.tdiv (Nat.gcd n.natAbs d.natAbs:Nat))∧((n:Rat)/(d:Rat)).den=d.natAbs/Nat.gcd n.natAbs d.natAbs:=by
 have h0:decide (d<0)=false:=decide_eq_false (by omega)
 have lJ:0<d.natAbs:=by omega
 have e:=P8 n d
 rw[h0]at e
 rw[←e,vN lJ,KI lJ]
 refine⟨?_,rfl⟩
 have hg:(Nat.gcd n.natAbs d.natAbs)∣n.natAbs:=Nat.gcd_dvd_left _ _
 by_cases hn:n<0
 ·rw[show (decide (n<0) != false)=true by simp[hn]]
  have e2:n = -(n.natAbs:Int):=by omega
  conv=>rhs;rw[e2,Int.neg_tdiv]
  simp[sg,Int.tdiv_eq_ediv_of_nonneg]
 ·rw[show (decide (n<0) != false)=false by simp[hn]]
  have e2:n=(n.natAbs:Int):=by omega
  conv=>rhs;rw[e2]
  simp[sg,Int.tdiv_eq_ediv_of_nonneg]
theorem Z0{n:Int}{g:Nat}(h1: -9223372036854775807≤n)(h2:n≤9223372036854775807): -9223372036854775807≤n.tdiv g∧n.tdiv g≤9223372036854775807:=by
 have:(n.tdiv g).natAbs≤n.natAbs:=by
  rw[Int.natAbs_tdiv];exact Nat.div_le_self _ _
 omega
abbrev N3(n d:Int)(b:Option Addr):Value:= .agg #[.int .i64 n,.int .i64 d,.pointer b]
theorem ow(H:Heap){n:Int}(h1: -9223372036854775807≤n)(h2:n≤9223372036854775807):bo H [.int .i64 n,.int .i64 1,.pointer none] (n:Rat):=
 ⟨_,_,_,rfl,.inl ⟨rfl,by simp,by simp,h1,h2,by decide⟩⟩
theorem oy{H:Heap}{n:Int}:
 Fn Tryz.prog 123 #[.int .i64 n] H (p8 H (N3 n 1 none)):=by
 refine aU (args:=[_]) Tryz.func123 rfl rfl Tryz.ntmps123 rfl rfl fun w0=> ?_;refine ag [0] rfl ?_;refine ae ?_;refine bh dT rfl ?_;refine ab [0,2] ?_;refine ae ?_;refine vr 1 ?_;refine dW af rfl dT rfl rfl ?_;obtain⟨ti,aj,ak⟩:=bV;refine aG (.inl ⟨rfl,rfl⟩) rfl rfl rfl aj ak rfl rfl rfl ?_;refine ab [2] ?_;obtain⟨bX,aK,aL⟩:=bV;refine aq ⟨.inr rfl,_,.agg rfl Tryz.underlying90 aK aL (.nil),?_⟩;exact⟨rfl,rfl⟩
theorem Qu{H:Heap}{u:Value}{l:List Nat}(hu:iH H u l)(hl:Lt l)(h2:l.length≤2):
 Fn Tryz.prog 188 #[u] H (p8 H (.int .i64 (val l:Nat))):=by
 obtain⟨A,c,rfl,hc,hr⟩:=hu;refine aU (args:=[_]) Tryz.func188 rfl rfl Tryz.ntmps188 rfl rfl fun w0=> ?_;refine ag [0] rfl ?_;refine ae ?_;refine vr 1 ?_;refine ab [0] ?_;refine ae ?_;refine vr 1 ?_;refine ab [0,3] ?_;refine al ?_;refine ae ?_;refine vr 2 ?_;refine eo rfl rfl ⟨by omega,by omega⟩ ?_;refine vr 1 ?_;refine ab [0,3,4] ?_;refine aD ?_;refine ft (fun(k:Nat)=>k) (fun(k:Nat)=>put (put (put (emp) 0 (.val (.slice A l.length c))) 3 (.val (.int .i64 (val (l.drop k):Nat)))) 4 (.val (.int .i64 ((k:Int)-1)))) (fun(k:Nat) H'=>H'=H∧k≤l.length) l.length (⟨rfl,Nat.le_refl _⟩) (by simp only[List.drop_length];repeat (first | exact kL _ | refine eS rfl ?_ | refine eS (lz (by first | omega | (simp[val];done))) ?_)) ?_;rintro k H1 ⟨rfl,hk⟩;refine al ?_;refine ae ?_;refine vr 2 ?_;refine ab [0,3,4,9] ?_;refine az rfl (fun hb=> ?_) (fun hb=> ?_)
 ·
  have hb:0<k:=by simp at hb;omega
  obtain⟨x,hx⟩:∃x,l[k-1]? = some x:=⟨_,List.getElem?_eq_getElem (by omega)⟩;have Z1:=hl.get hx
  have lC:val (l.drop (k-1))=x+B*val (l.drop k):=by
   obtain⟨jR,e⟩:=List.getElem?_eq_some_iff.1 hx;rw[List.drop_eq_getElem_cons jR,e,iF,show k-1+1=k by omega]
  have Z2:=rV (hl.drop k);have Z3:B^(l.drop k).length≤B^1:=Nat.pow_le_pow_right lN (by rw[List.length_drop];omega)
  have af1:val (l.drop k)<1000000000:=by
   have:=Nat.lt_of_lt_of_le Z2 Z3
   rwa [Nat.pow_one,cz]at this
  rw[cz]at Z1 lC;refine aw ?_;refine ag [0,3,4] rfl ?_;refine al ?_;refine aD ?_;refine aE rfl ?_;refine vr 1 ?_;refine jh rfl rfl ⟨by omega,by omega⟩ ?_;refine vr 2 ?_;refine a6 af rfl rfl rfl rfl rfl (hr) (by rw[show ((k:Int)-1).toNat=k-1 by omega];exact dA hx) (by omega) (by omega) fun _=> ?_;refine dr af rfl rfl rfl ⟨by omega,by omega⟩ ?_;refine aN rfl rfl ⟨by omega,by omega⟩ ?_;refine vr 1 ?_;refine aA ?_;refine ag [0,3,4] rfl ?_;refine aE rfl ?_;refine vr 1 ?_;refine eo rfl rfl ⟨by omega,by omega⟩ ?_;refine vr 1 ?_;refine aA ?_;exact⟨k-1,by omega,(by rw[lC];repeat (first | exact kL _ | refine eS rfl ?_ | refine eS (lz (by omega)) ?_)),rfl,by omega⟩
 ·
  have hb:k=0:=by simp at hb;omega
  subst hb;refine bB ?_;refine ag [3] rfl ?_;refine ae ?_;refine vr 2 ?_;refine ab [2] ?_;refine aq ⟨.inr rfl,_,.tmp rfl (.nil),?_⟩;exact⟨rfl,rfl⟩
theorem vU{H:Heap}{v:Value}{q:Rat}(hv:cJ H v q):
 Fn Tryz.prog 130 #[v] H (qa H q):=by
 obtain⟨u,w,rfl,hu,hw⟩:=id hv
 have Hv:=hv
 unfold cJ at Hv
 obtain⟨f,hf⟩:∃f,f=decide (q.num<0):=⟨_,rfl⟩
 rw[←hf]at hv
 rw[←hf]
 obtain⟨A,c,rfl,hc,hr⟩:=id hu
 obtain⟨A',c',rfl,jg,dd⟩:=id hw;refine aU (args:=[_]) Tryz.func130 rfl rfl Tryz.ntmps130 rfl rfl fun w0=> ?_;refine ag [0] rfl ?_;refine ae ?_;refine Pn rfl rfl ?_;intro g hg;have hle:=Heap.bC (whole [.bool f,.slice A (ah q.num.natAbs).length c,.slice A' (ah q.den).length c'] 31) hg;refine bh dT rfl ?_;refine ab [1,2] ?_;refine al ?_
 by_cases h2:2<(ah q.num.natAbs).length
 ·
  skip
  refine ae ?_;refine bJ af rfl rfl rfl ?_;refine aZ af rfl rfl rfl (qR rfl) ?_;refine vr 1 ?_;refine ax true rfl rfl (iG (by omega)) ?_;refine vr 6 ?_;refine ab [1,2,13] ?_;refine cD rfl ?_;refine ae ?_;refine dW af rfl dT rfl rfl ?_;obtain⟨ti,aj,ak⟩:=bV;refine aG (.inl ⟨rfl,rfl⟩) rfl rfl rfl aj ak rfl rfl rfl ?_;refine ab [2] ?_;obtain⟨bX,aK,aL⟩:=bV;refine aq ⟨.inr rfl,_,.agg rfl Tryz.underlying90 aK aL (.nil),?_⟩;exact⟨hle,_,rfl,0,0,some ⟨g,0,none⟩,rfl,.inr ⟨_,f,_,_,rfl,hv.le hle,Ht,qR rfl,qR rfl⟩⟩
 ·
  skip
  by_cases h3:2<(ah q.den).length
  ·
   skip
   refine ae ?_;refine bJ af rfl rfl rfl ?_;refine aZ af rfl rfl rfl (qR rfl) ?_;refine vr 1 ?_;refine ax false rfl rfl (fN (by omega)) ?_;refine vr 1 ?_;refine bJ af rfl rfl rfl ?_;refine aZ af rfl rfl rfl (qR rfl) ?_;refine vr 1 ?_;refine ax true rfl rfl (iG (by omega)) ?_;refine vr 1 ?_;refine ab [1,2,13] ?_;refine cD rfl ?_;refine ae ?_;refine dW af rfl dT rfl rfl ?_;obtain⟨ti,aj,ak⟩:=bV;refine aG (.inl ⟨rfl,rfl⟩) rfl rfl rfl aj ak rfl rfl rfl ?_;refine ab [2] ?_;obtain⟨bX,aK,aL⟩:=bV;refine aq ⟨.inr rfl,_,.agg rfl Tryz.underlying90 aK aL (.nil),?_⟩;exact⟨hle,_,rfl,0,0,some ⟨g,0,none⟩,rfl,.inr ⟨_,f,_,_,rfl,hv.le hle,Ht,qR rfl,qR rfl⟩⟩
  ·
   skip
   refine ae ?_;refine bJ af rfl rfl rfl ?_;refine aZ af rfl rfl rfl (qR rfl) ?_;refine vr 1 ?_;refine ax false rfl rfl (fN (by omega)) ?_;refine vr 1 ?_;refine bJ af rfl rfl rfl ?_;refine aZ af rfl rfl rfl (qR rfl) ?_;refine vr 1 ?_;refine ax false rfl rfl (fN (by omega)) ?_;refine vr 1 ?_;refine ab [1,2,13] ?_;refine dg rfl ?_;refine aw ?_;refine ag [1,2] rfl ?_;have Hw:=ji.1 (show (ah q.num.natAbs).length≤2 by omega);have qF:=ji.1 (show (ah q.den).length≤2 by omega);rw[cz]at Hw qF;refine bL .bn [0,1,3,4,2,5,6,7,8] follows (by kernel_rfl) ?_;refine bJ af rfl rfl rfl ?_;refine aZ af rfl rfl rfl (qR rfl) ?_;refine bJ af rfl rfl rfl ?_;refine aZ af rfl rfl rfl (qR rfl) ?_;refine aH rfl rfl (Qu (hu.le hle) (fj _).lt (by omega)) (fun _ _ h=>h.le) ?_;rintro v1 H1 ⟨e1,rfl⟩;rw[e1,cU];refine aH rfl rfl (Qu (hw.le hle) (fj _).lt (by omega)) (fun _ _ h=>h.le) ?_;rintro v1 H1 ⟨e1,rfl⟩;rw[e1,cU];refine dW af rfl dT rfl rfl ?_;refine bh dT rfl ?_;obtain⟨ti,aj,ak⟩:=bV;refine aG (.inl ⟨rfl,rfl⟩) rfl rfl rfl aj ak rfl rfl rfl ?_;refine ab [1,2,3] ?_;refine al ?_;refine ae ?_;refine bJ af rfl rfl rfl ?_
   refine aZ af rfl rfl rfl (Ht) ?_;refine ab [2,3,23] ?_;refine az rfl (fun hb=> ?_) (fun hb=> ?_)
   ·
    have hq:q.num<0:=by rw[hf]at hb;simpa using hb
    refine aE rfl ?_;refine vr 2 ?_;refine zS rfl ⟨by omega,by omega⟩ ?_;refine vr 1 ?_;obtain⟨ti,aj,ak⟩:=qL;refine aG (.inr rfl) rfl rfl rfl aj ak rfl rfl rfl ?_;refine aA ?_;refine ag [2,3] rfl ?_;refine ae ?_;refine vr 1 ?_;obtain⟨ti,aj,ak⟩:=bV;refine aG (.inl ⟨rfl,rfl⟩) rfl rfl rfl aj ak rfl rfl rfl ?_;refine ab [2] ?_;obtain⟨bX,aK,aL⟩:=bV;refine aq ⟨.inr rfl,_,.agg rfl Tryz.underlying90 aK aL (.nil),?_⟩;refine⟨hle,_,rfl,-(q.num.natAbs:Int),(q.den:Int),none,rfl,.inl ⟨rfl,by omega,rfl,by omega,by omega,by omega⟩⟩
   ·
    have hq:¬q.num<0:=by rw[hf]at hb;simpa using hb
    refine aw ?_;refine ag [2,3] rfl ?_;refine ae ?_;refine vr 1 ?_;obtain⟨ti,aj,ak⟩:=bV;refine aG (.inl ⟨rfl,rfl⟩) rfl rfl rfl aj ak rfl rfl rfl ?_;refine ab [2] ?_;obtain⟨bX,aK,aL⟩:=bV;refine aq ⟨.inr rfl,_,.agg rfl Tryz.underlying90 aK aL (.nil),?_⟩;refine⟨hle,_,rfl,(q.num.natAbs:Int),(q.den:Int),none,rfl,.inl ⟨rfl,by omega,rfl,by omega,by omega,by omega⟩⟩
theorem vV{H:Heap}{v:Value}{q:Rat}{N:Nat}(hv:bN H v q N)(hN:(N:Int)≤1099511627776):
 Fn Tryz.prog 121 #[v] H (qa H q):=by
 obtain⟨bf,bu,bw,lW,lX,rfl,_⟩:=id hv;refine aU (args:=[_]) Tryz.func121 rfl rfl Tryz.ntmps121 rfl rfl fun w0=> ?_;refine ag [0] rfl ?_;refine ae ?_;refine bF rfl rfl ?_;refine bh dT rfl ?_;refine ab [1,2] ?_;refine ae ?_;refine vr 1 ?_;refine ar rfl rfl (AE hv hN) ?_;rintro w1 G1 ⟨fc,cn⟩;obtain⟨u1,x1,rfl,ep,ee⟩:=id cn;obtain⟨lS,lT,rfl,lU,lV⟩:=id ep;obtain⟨sk,sm,rfl,so,sq⟩:=id ee;refine ar rfl rfl (vU cn) ?_;rintro w2 G2 ⟨dP,Dv,rfl,bK⟩;obtain⟨n2,d2,b2,rfl,_⟩:=id bK;obtain⟨ti,aj,ak⟩:=bV;refine aG (.inl ⟨rfl,rfl⟩) rfl rfl rfl aj ak rfl rfl rfl ?_;refine ab [2] ?_;obtain⟨bX,aK,aL⟩:=bV;refine aq ⟨.inr rfl,_,.agg rfl Tryz.underlying90 aK aL (.nil),?_⟩;exact⟨fc.trans dP,_,rfl,bK⟩
theorem qc{H:Heap}{vs:List Value}{q:Rat}(hv:bo H vs q):
 Fn Tryz.prog 187 #[.agg vs.toArray] H (jZ H q):=by
 obtain⟨n,d,b,rfl,jE⟩:=id hv
 have cP:=fun ad f u w (h:cJ H (.agg #[.bool f,u,w]) q)(_:b=some ad)=>h.raw;refine aU (args:=[_]) Tryz.func187 rfl rfl Tryz.ntmps187 rfl rfl fun w0=> ?_;refine ag [0] rfl ?_;refine ae ?_;refine bF rfl rfl ?_;refine bh cM rfl ?_;refine ab [1,2] ?_;refine al ?_
 rcases jE with ⟨rfl,hn,hd,h1,h2,h3⟩ | ⟨ad,f,u,w,rfl,qS,pb,jo,o7⟩
 ·
  skip
  refine ae ?_;refine vr 2 ?_;refine vw pa rfl rfl ?_;refine ab [1,2,5] ?_;refine dg rfl ?_;refine aw ?_;refine ag [1,2] rfl ?_;refine ae ?_;refine vr 4 ?_;refine ar rfl rfl (Ql (by omega) (by omega) (by omega) (by omega)) ?_;rintro w1 G1 ⟨fc,cn⟩;obtain⟨u1,x1,rfl,ep,ee⟩:=id cn;obtain⟨lS,lT,rfl,lU,lV⟩:=id ep;obtain⟨sk,sm,rfl,so,sq⟩:=id ee;rw[hn,hd,sj]at cn;obtain⟨ti,aj,ak⟩:=bM;refine aG (.inl ⟨rfl,rfl⟩) rfl rfl rfl aj ak rfl rfl rfl ?_;refine ab [2] ?_;obtain⟨bX,aK,aL⟩:=bM;refine aq ⟨.inr rfl,_,.agg rfl Tryz.underlying31 aK aL (.nil),?_⟩
  skip
  rw[hn,hd,sj];exact⟨fc,cn⟩
 ·
  obtain⟨u1,w1,mD,ep,fi⟩:=id qS
  obtain⟨rfl,rfl,rfl⟩:f=decide (q.num<0)∧u=u1∧w=w1:=by simpa using mD
  obtain⟨lS,lT,rfl,lU,lV⟩:=id ep;obtain⟨Az,AA,rfl,AB,AD⟩:=id fi;refine ae ?_;refine vr 2 ?_;refine vw pa rfl rfl ?_;refine ab [1,2,5] ?_;refine cD rfl ?_;refine ae ?_;refine vr 3 ?_;refine zU (vs:=[.bool _,_,_]) af rfl rfl rfl (Hu pb jo o7) ?_;obtain⟨ti,aj,ak⟩:=bM;refine aG (.inl ⟨rfl,rfl⟩) rfl rfl rfl aj ak rfl rfl rfl ?_;refine ab [2] ?_;obtain⟨bX,aK,aL⟩:=bM;refine aq ⟨.inr rfl,_,.agg rfl Tryz.underlying31 aK aL (.nil),?_⟩;exact⟨.refl _,qS⟩
theorem K7{H:Heap}{vs:List Value}{q:Rat}(hv:bo H vs q)(hN:(aJ q:Int)≤1099511627776):
 Fn Tryz.prog 61 #[.agg vs.toArray] H (jZ H q):=by
 obtain⟨n,d,b,rfl,jE⟩:=id hv
 have cP:=fun ad f u w (h:cJ H (.agg #[.bool f,u,w]) q)(_:b=some ad)=>h.raw;refine aU (args:=[_]) Tryz.func61 rfl rfl Tryz.ntmps61 rfl rfl fun w0=> ?_;refine ag [0] rfl ?_;refine ae ?_;refine bF rfl rfl ?_;refine bh cM rfl ?_;refine ab [1,2] ?_;refine al ?_
 rcases jE with ⟨rfl,hn,hd,h1,h2,h3⟩ | ⟨ad,f,u,w,rfl,qS,pb,jo,o7⟩
 ·
  skip
  refine ae ?_;refine vr 2 ?_;refine vw pa rfl rfl ?_;refine ab [1,2,5] ?_;refine dg rfl ?_;refine aw ?_;refine ag [1,2] rfl ?_;refine ae ?_;refine vr 4 ?_;refine ar rfl rfl (Ql (by omega) (by omega) (by omega) (by omega)) ?_;rintro w1 G1 ⟨fc,cn⟩;obtain⟨u1,x1,rfl,ep,ee⟩:=id cn;obtain⟨lS,lT,rfl,lU,lV⟩:=id ep;obtain⟨sk,sm,rfl,so,sq⟩:=id ee;rw[hn,hd,sj]at cn;obtain⟨ti,aj,ak⟩:=bM;refine aG (.inl ⟨rfl,rfl⟩) rfl rfl rfl aj ak rfl rfl rfl ?_;refine ab [2] ?_;obtain⟨bX,aK,aL⟩:=bM;refine aq ⟨.inr rfl,_,.agg rfl Tryz.underlying31 aK aL (.nil),?_⟩
  skip
  rw[hn,hd,sj];exact⟨fc,cn⟩
 ·
  obtain⟨u1,w1,mD,ep,fi⟩:=id qS
  obtain⟨rfl,rfl,rfl⟩:f=decide (q.num<0)∧u=u1∧w=w1:=by simpa using mD
  obtain⟨lS,lT,rfl,lU,lV⟩:=id ep;obtain⟨Az,AA,rfl,AB,AD⟩:=id fi;refine ae ?_;refine vr 2 ?_;refine vw pa rfl rfl ?_;refine ab [1,2,5] ?_;refine cD rfl ?_;refine ae ?_;refine vr 3 ?_;refine zU (vs:=[.bool _,_,_]) af rfl rfl rfl (Hu pb jo o7) ?_;refine ar rfl rfl (AE qS.raw hN) ?_;rintro w1 G1 ⟨fc,cn⟩;obtain⟨u1,x1,rfl,ep,ee⟩:=id cn;obtain⟨lS,lT,rfl,lU,lV⟩:=id ep;obtain⟨sk,sm,rfl,so,sq⟩:=id ee;obtain⟨ti,aj,ak⟩:=bM;refine aG (.inl ⟨rfl,rfl⟩) rfl rfl rfl aj ak rfl rfl rfl ?_;refine ab [2] ?_;obtain⟨bX,aK,aL⟩:=bM;refine aq ⟨.inr rfl,_,.agg rfl Tryz.underlying31 aK aL (.nil),?_⟩;exact⟨fc,cn⟩
theorem Z4{H:Heap}{n d:Int}{b:Option Addr}:
 Fn Tryz.prog 184 #[N3 n d b] H (fun v H'=>H'=H∧∃t,v = .bool t∧(t=true↔b=none∧-2147483647≤n∧n≤2147483647∧d≤2147483647)):=by
 refine aU (args:=[_]) Tryz.func184 rfl rfl Tryz.ntmps184 rfl rfl fun w0=> ?_;refine ag [0] rfl ?_;refine ae ?_;refine bF rfl rfl ?_;refine vr 1 ?_;refine ab [1] ?_
 rcases b with _ | ad
 rotate_left
 ·
  skip
  refine ae ?_;refine vr 2 ?_;refine CO pa rfl rfl ?_;refine vr 16 ?_;refine ab [2] ?_;refine aq ⟨.inr rfl,_,.tmp rfl (.nil),?_⟩;exact⟨rfl,_,rfl,by constructor <;> intro h <;> first | (cases h;done) | exact⟨rfl,h1,h2,h3⟩ | (obtain⟨h4,h5,h6,h7⟩:=h;first | (cases h4;done) | omega) | rfl⟩
 ·
  skip
  by_cases h1: -2147483647≤n
  ·
   skip
   by_cases h2:n≤2147483647
   ·
    skip
    by_cases h3:d≤2147483647
    ·
     skip
     refine ae ?_;refine vr 2 ?_;refine CO pa rfl rfl ?_;refine vr 3 ?_;refine ax true rfl rfl (rX h1) ?_;refine vr 4 ?_;refine ax true rfl rfl (rX h2) ?_;refine vr 4 ?_;refine ax true rfl rfl (rX h3) ?_;refine vr 2 ?_;refine ab [2] ?_;refine aq ⟨.inr rfl,_,.tmp rfl (.nil),?_⟩;exact⟨rfl,_,rfl,by constructor <;> intro h <;> first | (cases h;done) | exact⟨rfl,h1,h2,h3⟩ | (obtain⟨h4,h5,h6,h7⟩:=h;first | (cases h4;done) | omega) | rfl⟩
    ·
     skip
     refine ae ?_;refine vr 2 ?_;refine CO pa rfl rfl ?_;refine vr 3 ?_;refine ax true rfl rfl (rX h1) ?_;refine vr 4 ?_;refine ax true rfl rfl (rX h2) ?_;refine vr 4 ?_;refine ax false rfl rfl (z7 (by omega)) ?_;refine vr 2 ?_;refine ab [2] ?_;refine aq ⟨.inr rfl,_,.tmp rfl (.nil),?_⟩;exact⟨rfl,_,rfl,by constructor <;> intro h <;> first | (cases h;done) | exact⟨rfl,h1,h2,h3⟩ | (obtain⟨h4,h5,h6,h7⟩:=h;first | (cases h4;done) | omega) | rfl⟩
   ·
    skip
    refine ae ?_;refine vr 2 ?_;refine CO pa rfl rfl ?_;refine vr 3 ?_;refine ax true rfl rfl (rX h1) ?_;refine vr 4 ?_;refine ax false rfl rfl (z7 (by omega)) ?_;refine vr 7 ?_;refine ab [2] ?_;refine aq ⟨.inr rfl,_,.tmp rfl (.nil),?_⟩;exact⟨rfl,_,rfl,by constructor <;> intro h <;> first | (cases h;done) | exact⟨rfl,h1,h2,h3⟩ | (obtain⟨h4,h5,h6,h7⟩:=h;first | (cases h4;done) | omega) | rfl⟩
  ·
   skip
   refine ae ?_;refine vr 2 ?_;refine CO pa rfl rfl ?_;refine vr 3 ?_;refine ax false rfl rfl (z7 (by omega)) ?_;refine vr 12 ?_;refine ab [2] ?_;refine aq ⟨.inr rfl,_,.tmp rfl (.nil),?_⟩;exact⟨rfl,_,rfl,by constructor <;> intro h <;> first | (cases h;done) | exact⟨rfl,h1,h2,h3⟩ | (obtain⟨h4,h5,h6,h7⟩:=h;first | (cases h4;done) | omega) | rfl⟩
def tT(n d:Int)(b:Option Addr):Bool:=b.isNone&&(decide (-2147483647≤n)&&(decide (n≤2147483647)&&decide (d≤2147483647)))
theorem ym{n d:Int}{b:Option Addr}:tT n d b=true↔b=none∧-2147483647≤n∧n≤2147483647∧d≤2147483647:=by
 simp[tT]
theorem ny{H:Heap}{n d:Int}{b:Option Addr}:Fn Tryz.prog 184 #[N3 n d b] H (p8 H (.bool (tT n d b))):=
 Z4.mono fun v H' ⟨h1,t,h2,h3⟩=>⟨h1,by rw[h2];congr 1;rw[Bool.eq_iff_iff,h3,ym]⟩
theorem Hz{H:Heap}{n d:Int}(h1: -9223372036854775807≤n)(h2:n≤9223372036854775807)(h3:0<d)(h4:d≤9223372036854775807):
 Fn Tryz.prog 185 #[.int .i64 n,.int .i64 d] H (qa H ((n:Rat)/(d:Rat))):=by
 have vL:=lowest (n:=n) h3;refine aU (args:=[_,_]) Tryz.func185 rfl rfl Tryz.ntmps185 rfl rfl fun w0=> ?_;refine ag [0,1] rfl ?_;refine ae ?_;refine bh dT rfl ?_;refine ab [0,1,4] ?_;refine ae ?_;refine vr 2 ?_;refine zS rfl ⟨by omega,by omega⟩ ?_;refine XO rfl rfl ?_;rw[show (if -n>n then -n else n)=((n.natAbs:Nat):Int) by split <;> omega];refine vr 3 ?_;refine ab [0,1,4,5,6] ?_;refine al ?_;refine aD ?_;refine jT (fun(a:Nat)(b:Nat)=>b) (fun(a:Nat)(b:Nat)=>put (put (put (put (put (emp) 0 (.val (.int .i64 n))) 1 (.val (.int .i64 d))) 4 (.box [.int .i64 0,.int .i64 0,.pointer none])) 5 (.val (.int .i64 (a:Int)))) 6 (.val (.int .i64 (b:Int)))) (fun(a:Nat)(b:Nat) H'=>H'=H∧Nat.gcd a b=Nat.gcd n.natAbs d.natAbs∧a≤9223372036854775807∧b≤9223372036854775807) n.natAbs d.natAbs (⟨rfl,rfl,by omega,by omega⟩) au ?_;rintro a b H1 ⟨rfl,hg,ha,yn⟩;refine al ?_;refine ae ?_;refine vr 2 ?_;refine ab [0,1,4,5,6,13] ?_;refine az rfl (fun hb=> ?_) (fun hb=> ?_)
 ·
  have hb:0<b:=by simp at hb;omega
  refine aw ?_;refine ag [0,1,4,5,6] rfl ?_;refine aD ?_;refine eT .bn [0,1,2,3,4,5] follows (by kernel_rfl) ?_;refine vr 3 ?_;refine gj rfl rfl (by omega) (by omega) ?_;refine vr 2 ?_;refine aA ?_;exact⟨b,a%b,Nat.mod_lt a hb,au,rfl,by rw[←hg,Nat.gcd_comm b,←Nat.gcd_rec,Nat.gcd_comm],yn,by have:=Nat.mod_lt a hb;omega⟩
 ·
  have hb:b=0:=by simp at hb;omega
  subst hb;rw[Nat.gcd_zero_right]at hg
  have AN:0<a:=by rw[hg];exact Nat.gcd_pos_of_pos_right _ (by omega)
  have jG:=Z0 (g:=a) h1 h2;have kj:(d/(a:Int))≤d∧0≤d/(a:Int):=⟨Int.ediv_le_self _ (by omega),Int.ediv_nonneg (by omega) (by omega)⟩;refine bB ?_;refine ag [0,1,4,5] rfl ?_;refine bL .bn [0,1,2,3,4,5,6,7] follows (by kernel_rfl) ?_;refine vr 2 ?_;refine Xg rfl rfl (by omega) ⟨by omega,by omega⟩ ?_;refine vr 2 ?_;refine lx rfl rfl (by omega) (by omega) ⟨by omega,by omega⟩ ?_;refine dW af rfl dT rfl rfl ?_;obtain⟨ti,aj,ak⟩:=bV;refine aG (.inl ⟨rfl,rfl⟩) rfl rfl rfl aj ak rfl rfl rfl ?_;refine ab [4] ?_;obtain⟨bX,aK,aL⟩:=bV;refine aq ⟨.inr rfl,_,.agg rfl Tryz.underlying90 aK aL (.nil),?_⟩;rw[←hg]at vL;refine⟨.refl _,_,rfl,n.tdiv a,d/(a:Int),none,rfl,.inl ⟨rfl,vL.1.symm,?_,jG.1,jG.2,by omega⟩⟩;rw[vL.2]
  have e:d=(d.natAbs:Int):=by omega
  rw[e,Int.natAbs_natCast];rfl
theorem iN{H:Heap}{vs:List Value}{q:Rat}(hv:bo H vs q)(hN:(aJ q:Int)≤1099511627776):
 Fn Tryz.prog 53 #[.agg vs.toArray] H (fun v H'=>Heap.le H H'∧v = .int .i64 (dF q)):=by
 obtain⟨n,d,b,rfl,jE⟩:=id hv
 have cP:=fun ad f u w (h:cJ H (.agg #[.bool f,u,w]) q)(_:b=some ad)=>h.raw
 have hs:=Qq q;refine aU (args:=[_]) Tryz.func53 rfl rfl Tryz.ntmps53 rfl rfl fun w0=> ?_;refine ag [0] rfl ?_;refine ae ?_;refine bF rfl rfl ?_;refine vr 1 ?_;refine ab [1] ?_;refine al ?_;refine aD ?_
 rcases jE with ⟨rfl,hn,hd,h1,h2,h3⟩ | ⟨ad,f,u,w,rfl,qS,pb,jo,o7⟩
 ·
  skip
  refine ae ?_;refine vr 2 ?_;refine vw pa rfl rfl ?_;refine vr 1 ?_;refine ab [1,3] ?_;refine dg rfl ?_;refine ae ?_;refine vr 4 ?_;refine ab [1,12] ?_;refine az rfl (fun hb=> ?_) (fun hb=> ?_)
  ·
   have hb:n<0:=by simpa using hb
   rw[if_neg (by omega),decide_eq_true (by omega)]at hs;refine ae ?_;refine vr 1 ?_;refine ab [2] ?_;refine aq ⟨.inr rfl,_,.tmp rfl (.nil),?_⟩;exact⟨.refl _,by rw[hs];rfl⟩
  ·
   have hb:0≤n:=by simpa using hb
   refine ae ?_;refine vr 4 ?_;refine ab [16] ?_;refine az rfl (fun hb=> ?_) (fun hb=> ?_)
   ·
    have hb:0<n:=by simpa using hb
    rw[if_neg (by omega),decide_eq_false (by omega)]at hs;refine ae ?_;refine vr 1 ?_;refine ab [2] ?_;refine aq ⟨.inr rfl,_,.tmp rfl (.nil),?_⟩;exact⟨.refl _,by rw[hs];rfl⟩
   ·
    have aW:n≤0:=by simpa using hb
    rw[if_pos (by omega)]at hs;refine aw ?_;refine ag [] rfl ?_;refine ae ?_;refine vr 1 ?_;refine ab [2] ?_;refine aq ⟨.inr rfl,_,.tmp rfl (.nil),?_⟩;exact⟨.refl _,by rw[hs];rfl⟩
 ·
  obtain⟨u1,w1,mD,ep,fi⟩:=id qS
  obtain⟨rfl,rfl,rfl⟩:f=decide (q.num<0)∧u=u1∧w=w1:=by simpa using mD
  obtain⟨lS,lT,rfl,lU,lV⟩:=id ep;obtain⟨Az,AA,rfl,AB,AD⟩:=id fi;refine ae ?_;refine vr 2 ?_;refine vw pa rfl rfl ?_;refine vr 1 ?_;refine ab [1,3] ?_;refine cD rfl ?_;refine ae ?_;refine vr 3 ?_;refine zU (vs:=[.bool _,_,_]) af rfl rfl rfl (Hu pb jo o7) ?_;refine ar rfl rfl (KY qS.raw hN) ?_;rintro v1 H1 ⟨aI,rfl⟩;refine vr 1 ?_;refine ab [2] ?_;refine aq ⟨.inr rfl,_,.tmp rfl (.nil),?_⟩;exact⟨aI,rfl⟩
theorem AO{H:Heap}{vs:List Value}{q:Rat}(hv:bo H vs q)(hN:(aJ q:Int)≤1099511627776):
 Fn Tryz.prog 58 #[.agg vs.toArray] H (qa H (-q)):=by
 obtain⟨n,d,b,rfl,jE⟩:=id hv
 have cP:=fun ad f u w (h:cJ H (.agg #[.bool f,u,w]) q)(_:b=some ad)=>h.raw;refine aU (args:=[_]) Tryz.func58 rfl rfl Tryz.ntmps58 rfl rfl fun w0=> ?_;refine ag [0] rfl ?_;refine ae ?_;refine bF rfl rfl ?_;refine bh dT rfl ?_;refine ab [1,2] ?_;refine al ?_
 rcases jE with ⟨rfl,hn,hd,h1,h2,h3⟩ | ⟨ad,f,u,w,rfl,qS,pb,jo,o7⟩
 ·
  skip
  refine ae ?_;refine vr 2 ?_;refine vw pa rfl rfl ?_;refine ab [1,2,5] ?_;refine dg rfl ?_;refine aw ?_;refine ag [1,2] rfl ?_;refine ae ?_;refine vr 2 ?_;refine zS rfl ⟨by omega,by omega⟩ ?_;refine vr 2 ?_;refine dW af rfl dT rfl rfl ?_;obtain⟨ti,aj,ak⟩:=bV;refine aG (.inl ⟨rfl,rfl⟩) rfl rfl rfl aj ak rfl rfl rfl ?_;refine ab [2] ?_;obtain⟨bX,aK,aL⟩:=bV;refine aq ⟨.inr rfl,_,.agg rfl Tryz.underlying90 aK aL (.nil),?_⟩;exact⟨.refl _,_,rfl,-n,d,none,rfl,.inl ⟨rfl,by rw[Rat.neg_num,hn],by rw[Rat.neg_den,hd],by omega,by omega,by omega⟩⟩
 ·
  obtain⟨u1,w1,mD,ep,fi⟩:=id qS
  obtain⟨rfl,rfl,rfl⟩:f=decide (q.num<0)∧u=u1∧w=w1:=by simpa using mD
  obtain⟨lS,lT,rfl,lU,lV⟩:=id ep;obtain⟨Az,AA,rfl,AB,AD⟩:=id fi;refine ae ?_;refine vr 2 ?_;refine vw pa rfl rfl ?_;refine ab [1,2,5] ?_;refine cD rfl ?_;refine ae ?_;refine vr 3 ?_;refine zU (vs:=[.bool _,_,_]) af rfl rfl rfl (Hu pb jo o7) ?_;refine ar rfl rfl (ZU qS.raw hN) ?_;rintro w1 G1 ⟨fc,cn⟩;obtain⟨u1,x1,rfl,ep,ee⟩:=id cn;obtain⟨lS,lT,rfl,lU,lV⟩:=id ep;obtain⟨sk,sm,rfl,so,sq⟩:=id ee;refine ar rfl rfl (vU cn) ?_;rintro w2 G2 ⟨dP,Dv,rfl,bK⟩;obtain⟨n2,d2,b2,rfl,_⟩:=id bK;obtain⟨ti,aj,ak⟩:=bV;refine aG (.inl ⟨rfl,rfl⟩) rfl rfl rfl aj ak rfl rfl rfl ?_;refine ab [2] ?_;obtain⟨bX,aK,aL⟩:=bV;refine aq ⟨.inr rfl,_,.agg rfl Tryz.underlying90 aK aL (.nil),?_⟩;exact⟨fc.trans dP,_,rfl,bK⟩
end Go.ay
namespace Lp
def aV:Nat→(Nat→Rat)→Rat
 | 0,_=>0
 | n+1,f=>aV n f+f n
theorem fJ(n:Nat)(f:Nat→Rat):aV (n+1) f=aV n f+f n:=rfl
theorem vW(f:Nat→Rat):aV 0 f=0:=rfl
theorem fB{n:Nat}{f g:Nat→Rat}(h:∀i,i<n→f i=g i):aV n f=aV n g:=by
 induction n with
 | zero=>rfl
 | succ n ih=>
  rw[fJ,fJ,ih (fun i hi=>h i (by omega)),h n (by omega)]
theorem K8(n:Nat)(f g:Nat→Rat):aV n (fun i=>f i+g i)=aV n f+aV n g:=by
 induction n with
 | zero=>simp only[aV];grind
 | succ n ih=>simp only[fJ,ih];grind
theorem Dw(n:Nat)(f g:Nat→Rat):aV n (fun i=>f i-g i)=aV n f-aV n g:=by
 induction n with
 | zero=>simp only[aV];grind
 | succ n ih=>simp only[fJ,ih];grind
theorem tU(n:Nat)(k:Rat)(f:Nat→Rat):aV n (fun i=>k*f i)=k*aV n f:=by
 induction n with
 | zero=>simp[aV]
 | succ n ih=>simp only[fJ,ih];grind
theorem sw(n:Nat)(k:Rat)(f:Nat→Rat):aV n (fun i=>f i*k)=aV n f*k:=by
 induction n with
 | zero=>simp[aV]
 | succ n ih=>simp only[fJ,ih];grind
theorem HA(n:Nat)(f:Nat→Rat):aV n (fun i=> - f i) = - aV n f:=by
 induction n with
 | zero=>simp only[aV];grind
 | succ n ih=>simp only[fJ,ih];grind
theorem HB(n:Nat):aV n (fun _=>0)=0:=by
 induction n with
 | zero=>rfl
 | succ n ih=>rw[fJ,ih];grind
theorem mE{n:Nat}{f:Nat→Rat}(h:∀i,i<n→f i=0):aV n f=0:=by
 rw[fB h,HB]
theorem qd{n k:Nat}(hk:k<n)(f:Nat→Rat)(h:∀i,i<n→i≠k→f i=0):aV n f=f k:=by
 induction n with
 | zero=>omega
 | succ n ih=>
  rw[fJ]
  by_cases e:k=n
  ·subst e
   rw[mE (fun i hi=>h i (by omega) (by omega))];grind
  ·rw[ih (by omega) (fun i hi bD=>h i (by omega) bD),h n (by omega) (by omega)];grind
theorem HC(m n:Nat)(f:Nat→Nat→Rat):
  aV m (fun i=>aV n (fun j=>f i j))=aV n (fun j=>aV m (fun i=>f i j)):=by
 induction m with
 | zero=>simp[aV,HB]
 | succ m ih=>simp only[fJ,ih,K8]
theorem Dx{n:Nat}{f:Nat→Rat}(h:∀i,i<n→0≤f i):0≤aV n f:=by
 induction n with
 | zero=>exact Rat.le_refl
 | succ n ih=>
  rw[fJ]
  have h1:=ih (fun i hi=>h i (by omega))
  have h2:=h n (by omega)
  grind
theorem HD{n:Nat}{f g:Nat→Rat}(h:∀i,i<n→f i≤g i):aV n f≤aV n g:=by
 induction n with
 | zero=>exact Rat.le_refl
 | succ n ih=>
  rw[fJ,fJ]
  have h1:=ih (fun i hi=>h i (by omega))
  have h2:=h n (by omega)
  grind
theorem Z5{n:Nat}{f:Nat→Rat}(h:0<aV n f):∃i,i<n∧0<f i:=by
 false_or_by_contra
 rename_i hc
 have:aV n f≤aV n (fun _=>0):=HD (fun i hi=>by
  have:¬0<f i:=fun hp=>hc ⟨i,hi,hp⟩
  grind)
 rw[HB]at this
 grind
theorem Qv{n k:Nat}(hk:k<n)(f:Nat→Rat):aV n (fun i=>if i=k then f i else 0)=f k:=by
 rw[qd hk _ (fun i _ bD=>if_neg bD),if_pos rfl]
structure ao where
 m:Nat
 n:Nat
 A:Nat→Nat→Rat
 c:Nat→Rat
 B:Nat→Nat
namespace ao
def oz(T:ao)(x:Nat→Rat):Prop:=∀i,i<T.m→aV (T.n+1) (fun j=>T.A i j*x j)=0
def cost(T:ao)(x:Nat→Rat):Rat:=aV (T.n+1) (fun j=>T.c j*x j)
structure WF(T:ao):Prop where
 lt:∀i,i<T.m→T.B i<T.n
 unit:∀i k,i<T.m→k<T.m→T.A k (T.B i)=if k=i then 1 else 0
 zero:∀i,i<T.m→T.c (T.B i)=0
theorem WF.inj{T:ao}(h:T.WF){i k:Nat}(hi:i<T.m)(hk:k<T.m)(e:T.B i=T.B k):i=k:=by
 have h1:=h.unit i k hi hk
 have h2:=h.unit k k hk hk
 rw[e,h2]at h1
 simp at h1
 exact h1.symm
def kT(T:ao):Prop:=∀i,i<T.m→0≤T.A i T.n
def dir(T:ao)(s:Nat)(j:Nat):Rat:=(if j=s then 1 else 0)-aV T.m (fun i=>if T.B i=j then T.A i s else 0)
theorem AP(T:ao)(hB:∀i,i<T.m→T.B i<T.n)(s:Nat)(hs:s≤T.n)(f:Nat→Rat):
  aV (T.n+1) (fun j=>f j*T.dir s j)=f s-aV T.m (fun i=>f (T.B i)*T.A i s):=by
 have e1:∀j,f j*T.dir s j=(if j=s then f j else 0)-aV T.m (fun i=>if j=T.B i then f j*T.A i s else 0):=by
  intro j
  unfold dir
  have:aV T.m (fun i=>if j=T.B i then f j*T.A i s else 0)=f j*aV T.m (fun i=>if T.B i=j then T.A i s else 0):=by
   rw[←tU]
   refine fB fun i _=> ?_
   by_cases e:T.B i=j
   ·rw[if_pos e,if_pos e.symm]
   ·rw[if_neg e,if_neg (fun h=>e h.symm)];grind
  rw[this]
  by_cases e:j=s
  ·rw[if_pos e,if_pos e];grind
  ·rw[if_neg e,if_neg e];grind
 rw[fB (fun j _=>e1 j),Dw,Qv (by omega)]
 congr 1
 rw[HC]
 refine fB fun i hi=> ?_
 have:=hB i hi
 exact Qv (f:=fun j=>f j*T.A i s) (by omega)
theorem vX{T:ao}(h:T.WF)(s:Nat)(hs:s≤T.n):T.oz (T.dir s):=by
 intro k hk
 rw[AP T h.lt s hs]
 rw[qd hk]
 ·rw[h.unit k k hk hk,if_pos rfl];grind
 ·intro i hi bD
  rw[h.unit i k hi hk,if_neg (fun e=>bD e.symm)];grind
theorem AQ{T:ao}(h:T.WF)(s:Nat)(hs:s≤T.n):T.cost (T.dir s)=T.c s:=by
 unfold cost
 rw[AP T h.lt s hs,mE]
 ·grind
 ·intro i hi;rw[h.zero i hi];grind
def pivot(T:ao)(r s:Nat):ao:=
 {m:=T.m,n:=T.n
  A:=fun i j=>if i=r then T.A r j/T.A r s else T.A i j-T.A i s*(T.A r j/T.A r s)
  c:=fun j=>T.c j-T.c s*(T.A r j/T.A r s)
  B:=fun i=>if i=r then s else T.B i}
theorem AR{T:ao}(h:T.WF){r s:Nat}(hr:r<T.m)(hs:s<T.n)(hp:T.A r s≠0):(T.pivot r s).WF:=by
 refine⟨fun i hi=> ?_,fun i k hi hk=> ?_,fun i hi=> ?_⟩
 ·simp only[pivot]at hi⊢
  split
  ·exact hs
  ·exact h.lt i hi
 ·simp only[pivot]at hi hk⊢
  by_cases ei:i=r
  ·simp only[if_pos ei]
   by_cases ek:k=r
   ·simp only[ek,ei,if_true];grind
   ·simp only[if_neg ek]
    rw[if_neg (by omega)];grind
  ·simp only[if_neg ei]
   have hu:=h.unit i r hi hr
   rw[if_neg (fun e=>ei e.symm)]at hu
   rw[hu]
   by_cases ek:k=r
   ·simp only[if_pos ek]
    rw[if_neg (by omega)];grind
   ·simp only[if_neg ek]
    rw[h.unit i k hi hk];grind
 ·simp only[pivot]at hi⊢
  by_cases ei:i=r
  ·simp only[if_pos ei];grind
  ·simp only[if_neg ei]
   have hu:=h.unit i r hi hr
   rw[if_neg (fun e=>ei e.symm)]at hu
   rw[hu,h.zero i hi];grind
theorem Qw(T:ao)(r s i:Nat)(x:Nat→Rat):
  aV (T.n+1) (fun j=>(T.pivot r s).A i j*x j) =
   if i=r then aV (T.n+1) (fun j=>T.A r j*x j)/T.A r s
   else aV (T.n+1) (fun j=>T.A i j*x j)-T.A i s*(aV (T.n+1) (fun j=>T.A r j*x j)/T.A r s):=by
 simp only[pivot]
 by_cases e:i=r
 ·simp only[if_pos e]
  rw[Rat.div_def,←sw]
  exact fB fun j _=>by grind
 ·simp only[if_neg e]
  rw[Rat.div_def,←sw,←tU,←Dw]
  exact fB fun j _=>by grind
theorem K9{T:ao}{r s:Nat}(hr:r<T.m)(hp:T.A r s≠0)(x:Nat→Rat):(T.pivot r s).oz x↔T.oz x:=by
 constructor
 ·intro h i hi
  have dd:=h r hr
  have fR:=h i hi
  have en:(T.pivot r s).n=T.n:=rfl
  rw[en,Qw]at dd fR
  rw[if_pos rfl]at dd
  have h0:aV (T.n+1) (fun j=>T.A r j*x j)=0:=by grind
  by_cases e:i=r
  ·subst e;exact h0
  ·rw[if_neg e]at fR;grind
 ·intro h i hi
  have en:(T.pivot r s).n=T.n:=rfl
  have em:(T.pivot r s).m=T.m:=rfl
  rw[em]at hi
  rw[en,Qw,h r hr,h i hi]
  split <;> grind
theorem Qx{T:ao}{r s:Nat}(hr:r<T.m)(x:Nat→Rat)(hx:T.oz x):(T.pivot r s).cost x=T.cost x:=by
 have e:(T.pivot r s).cost x=T.cost x-T.c s*(aV (T.n+1) (fun j=>T.A r j*x j)/T.A r s):=by
  unfold cost
  simp only[pivot]
  rw[Rat.div_def,←sw,←tU,←Dw]
  exact fB fun j _=>by grind
 rw[e,hx r hr];grind
structure sy(T:ao)(u r s:Nat):Prop where
 su:s<u
 neg:T.c s<0
 first:∀j,j<s→0≤T.c j
 rm:r<T.m
 pos:0<T.A r s
 least:∀i,i<T.m→0<T.A i s→T.A r T.n/T.A r s<T.A i T.n/T.A i s∨(T.A r T.n/T.A r s=T.A i T.n/T.A i s∧T.B r≤T.B i)
theorem La{a b:Rat}(ha:0≤a)(hb:0<b):0≤a/b:=by
 rw[Rat.div_def]
 have:0<b⁻¹:=Rat.inv_pos.2 hb
 exact Rat.mul_nonneg ha (Rat.le_of_lt this)
theorem Lb{T:ao}{u r s:Nat}(hf:T.kT)(hb:T.sy u r s):(T.pivot r s).kT:=by
 intro i hi
 have fR:i<T.m:=hi
 have hr:=hf r hb.rm
 have ng:=hf i fR
 have hq:0≤T.A r T.n/T.A r s:=La hr hb.pos
 show 0≤(if i=r then T.A r T.n/T.A r s else T.A i T.n-T.A i s*(T.A r T.n/T.A r s))
 split
 ·exact hq
 ·by_cases hp:0<T.A i s
  ·have hl:T.A r T.n/T.A r s≤T.A i T.n/T.A i s:=by
    rcases hb.least i fR hp with h | h
    ·exact Rat.le_of_lt h
    ·rw[h.1];exact Rat.le_refl
   have h3:T.A i s*(T.A r T.n/T.A r s)≤T.A i s*(T.A i T.n/T.A i s):=Rat.mul_le_mul_of_nonneg_left hl (Rat.le_of_lt hp)
   have h4:T.A i s*(T.A i T.n/T.A i s)=T.A i T.n:=by grind
   grind
  ·have h5:0≤(- T.A i s)*(T.A r T.n/T.A r s):=Rat.mul_nonneg (by grind) hq
   grind
structure qT(u:Nat)(len:Nat) where
 T:Nat→ao
 r:Nat→Nat
 s:Nat→Nat
 wf:(T 0).WF
 dB:(T 0).kT
 un:u≤(T 0).n
 step:∀k,k<len→(T k).sy u (r k) (s k)
 next:∀k,k<len→T (k+1)=(T k).pivot (r k) (s k)
namespace qT
variable {u len:Nat} (R:qT u len)
theorem AS(k:Nat)(hk:k≤len):(R.T k).n=(R.T 0).n:=by
 induction k with
 | zero=>rfl
 | succ k ih=>rw[R.next k (by omega)];exact ih (by omega)
theorem sn{k:Nat}(hk:k<len):R.s k<(R.T k).n:=by
 have:=(R.step k hk).su
 have:=R.un
 rw[R.AS k (by omega)];omega
theorem vY(k:Nat)(hk:k≤len):(R.T k).WF:=by
 induction k with
 | zero=>exact R.wf
 | succ k ih=>
  rw[R.next k (by omega)]
  have hb:=R.step k (by omega)
  have:=hb.pos
  exact AR (ih (by omega)) hb.rm (R.sn (by omega)) (by grind)
theorem Z6(k:Nat)(hk:k≤len):(R.T k).kT:=by
 induction k with
 | zero=>exact R.dB
 | succ k ih=>
  rw[R.next k (by omega)]
  exact Lb (ih (by omega)) (R.step k (by omega))
theorem Qy(k:Nat)(hk:k≤len)(x:Nat→Rat):(R.T k).oz x↔(R.T 0).oz x:=by
 induction k with
 | zero=>exact Iff.rfl
 | succ k ih=>
  rw[R.next k (by omega)]
  have hb:=R.step k (by omega)
  have:=hb.pos
  rw[K9 hb.rm (by grind)]
  exact ih (by omega)
theorem Qz(k:Nat)(hk:k≤len)(x:Nat→Rat)(hx:(R.T 0).oz x):(R.T k).cost x=(R.T 0).cost x:=by
 induction k with
 | zero=>rfl
 | succ k ih=>
  rw[R.next k (by omega)]
  have hb:=R.step k (by omega)
  rw[Qx hb.rm x ((R.Qy k (by omega) x).2 hx)]
  exact ih (by omega)
def basic(k j:Nat):Prop:=∃i,i<(R.T k).m∧(R.T k).B i=j
def val(T:ao)(j:Nat):Rat:=aV T.m (fun i=>if T.B i=j then T.A i T.n else 0)
theorem Lc{T:ao}(h:T.WF){i:Nat}(hi:i<T.m):val T (T.B i)=T.A i T.n:=by
 unfold val
 rw[qd hi,if_pos rfl]
 intro k hk bD
 rw[if_neg]
 exact fun e=>bD (h.inj hk hi e)
def sA(k:Nat):Prop:=(R.T k).A (R.r k) (R.T k).n=0
theorem QA{k:Nat}(hk:k<len)(hd:R.sA k)(j:Nat):val (R.T (k+1)) j=val (R.T k) j:=by
 rw[R.next k hk]
 unfold val
 unfold sA at hd
 refine fB fun i hi=> ?_
 simp only[pivot]
 rw[hd]
 by_cases e:i=R.r k
 ·subst e;simp only[if_true,hd];grind
 ·simp only[if_neg e];grind
theorem QB{a b:Nat}(AT:a≤b)(hb:b≤len)(hd:∀k,a≤k→k<b→R.sA k)(j:Nat):val (R.T b) j=val (R.T a) j:=by
 induction b with
 | zero=>obtain rfl:a=0:=by omega
         rfl
 | succ b ih=>
  by_cases e:a=b+1
  ·subst e;rfl
  ·rw[R.QA (by omega) (hd b (by omega) (by omega))]
   exact ih (by omega) (by omega) (fun k h1 h2=>hd k h1 (by omega))
theorem Dy{k:Nat}(hk:k<len)(j:Nat):R.basic (k+1) j↔(j=R.s k∨(R.basic k j∧j≠(R.T k).B (R.r k))):=by
 unfold basic
 rw[R.next k hk]
 have hb:=R.step k hk
 have hw:=R.vY k (by omega)
 constructor
 ·rintro⟨i,hi,e⟩
  have fR:i<(R.T k).m:=hi
  have e':(if i=R.r k then R.s k else(R.T k).B i)=j:=e
  by_cases er:i=R.r k
  ·rw[if_pos er]at e';exact .inl e'.symm
  ·rw[if_neg er]at e'
   refine .inr ⟨⟨i,fR,e'⟩,fun h=>er (hw.inj fR hb.rm (by rw[e',h]))⟩
 ·rintro(h | ⟨⟨i,hi,e⟩,bD⟩)
  ·refine⟨R.r k,hb.rm,?_⟩
   show (if R.r k=R.r k then R.s k else _)=j
   rw[if_pos rfl,h]
  ·refine⟨i,hi,?_⟩
   show (if i=R.r k then R.s k else(R.T k).B i)=j
   rw[if_neg,e]
   intro er;exact bD (by rw[←e,er])
theorem Ld{k:Nat}(hk:k<len):¬R.basic k (R.s k):=by
 rintro⟨i,hi,e⟩
 have:=(R.vY k (by omega)).zero i hi
 rw[e]at this
 have:=(R.step k hk).neg
 grind
theorem Le{k:Nat}(hk:k<len):R.basic k ((R.T k).B (R.r k)):=⟨_,(R.step k hk).rm,rfl⟩
theorem change{a b:Nat}(AT:a≤b)(hb:b≤len)(j:Nat)(h:¬(R.basic a j↔R.basic b j)):
  ∃k,a≤k∧k<b∧(R.s k=j∨(R.T k).B (R.r k)=j):=by
 induction b with
 | zero=>obtain rfl:a=0:=by omega
         exact absurd Iff.rfl h
 | succ b ih=>
  by_cases e:a=b+1
  ·subst e;exact absurd Iff.rfl h
  ·by_cases h2:R.s b=j∨(R.T b).B (R.r b)=j
   ·exact⟨b,by omega,by omega,h2⟩
   ·have:R.basic (b+1) j↔R.basic b j:=by
     rw[R.Dy (by omega)]
     constructor
     ·rintro(h | h)
      ·exact absurd (.inl h.symm) h2
      ·exact h.1
     ·exact fun h=> .inr ⟨h,fun e=>h2 (.inr e.symm)⟩
    obtain⟨k,h3,h4,h5⟩:=ih (by omega) (by omega) (fun hh=>h (hh.trans this.symm))
    exact⟨k,h3,by omega,h5⟩
theorem val_zero{k:Nat}(hk:k<len)(hd:R.sA k){j:Nat}(h:R.s k=j∨(R.T k).B (R.r k)=j):val (R.T k) j=0:=by
 rcases h with h | h
 ·rw[←R.QA hk hd]
  have e:j=(R.T (k+1)).B (R.r k):=by
   rw[R.next k hk]
   show j=if R.r k=R.r k then R.s k else _
   rw[if_pos rfl,h]
  rw[e,Lc (R.vY (k+1) (by omega)) (by rw[R.next k hk];exact(R.step k hk).rm)]
  rw[R.next k hk]
  show (if R.r k=R.r k then(R.T k).A (R.r k) (R.T k).n/(R.T k).A (R.r k) (R.s k)else _)=0
  rw[if_pos rfl]
  unfold sA at hd
  rw[hd];grind
 ·rw[←h,Lc (R.vY k (by omega)) (R.step k hk).rm]
  exact hd
theorem HE{a b t p q:Nat}(hb:b≤len)(hd:∀k,a≤k→k<b→R.sA k)
  (hle:∀k,a≤k→k<b→R.s k≤t∧(R.T k).B (R.r k)≤t) (gG:a≤p) (ia:p<b) (cn:a≤q) (bK:q<b)
  (hp:(R.T p).B (R.r p)=t) (hq:R.s q=t):False:=by
 have bp:=R.step p (by omega)
 have bq:=R.step q (by omega)
 have wp:=R.vY p (by omega)
 have hs:R.s p<t:=by
  have h1:=(hle p gG ia).1
  have h2:R.s p≠t:=fun e=>R.Ld (k:=p) (by omega) (by rw[e,←hp];exact R.Le (by omega))
  omega
 have qU:R.s p≤(R.T p).n:=Nat.le_of_lt (R.sn (by omega))
 have Z7:=vX wp (R.s p) qU
 have QC:=(R.Qy p (by omega) _).1 Z7
 have hc:=AQ wp (R.s p) qU
 rw[R.Qz p (by omega) _ QC,←R.Qz q (by omega) _ QC]at hc
 have en:(R.T q).n=(R.T p).n:=by rw[R.AS p (by omega),R.AS q (by omega)]
 unfold cost at hc
 rw[en,AP _ wp.lt _ qU]at hc
 have fM:0≤(R.T q).c (R.s p):=bq.first _ (by rw[hq];exact hs)
 have iO:=bp.neg
 have tV:0<aV (R.T p).m (fun i=>(R.T q).c ((R.T p).B i)*(R.T p).A i (R.s p)):=by grind
 obtain⟨i,hi,tW⟩:=Z5 tV
 have Hw:¬R.basic q ((R.T p).B i):=by
  rintro⟨k,hk,e⟩
  have:=(R.vY q (by omega)).zero k hk
  rw[e]at this
  rw[this]at tW;grind
 have Kx:R.basic p ((R.T p).B i):=⟨i,hi,rfl⟩
 have hex:∃k,a≤k∧k<b∧min p q≤k∧(R.s k=(R.T p).B i∨(R.T k).B (R.r k)=(R.T p).B i):=by
  rcases Nat.le_total p q with lO | lO
  ·obtain⟨k,h1,h2,h3⟩:=R.change lO (by omega) ((R.T p).B i) (fun h=>Hw (h.1 Kx))
   exact⟨k,by omega,by omega,by omega,h3⟩
  ·obtain⟨k,h1,h2,h3⟩:=R.change lO (by omega) ((R.T p).B i) (fun h=>Hw (h.2 Kx))
   exact⟨k,by omega,by omega,by omega,h3⟩
 obtain⟨k,iU,jf,_,eG⟩:=hex
 have jK:(R.T p).B i≤t:=by
  rcases eG with e | e
  ·rw[←e];exact(hle k iU jf).1
  ·rw[←e];exact(hle k iU jf).2
 have Hv:val (R.T k) ((R.T p).B i)=0:=R.val_zero (by omega) (hd k iU jf) eG
 have QD:val (R.T p) ((R.T p).B i)=0:=by
  rcases Nat.le_total p k with h | h
  ·rw[←R.QB h (by omega) (fun x h1 h2=>hd x (by omega) (by omega))];exact Hv
  ·rw[R.QB h (by omega) (fun x h1 h2=>hd x (by omega) (by omega))];exact Hv
 rw[Lc wp hi]at QD
 by_cases et:(R.T p).B i=t
 ·have:i=R.r p:=wp.inj hi bp.rm (by rw[et,hp])
  subst this
  have h1:=bq.neg
  rw[hq,←et]at h1
  have h2:=bp.pos
  have h3:(R.T q).c ((R.T p).B (R.r p))*(R.T p).A (R.r p) (R.s p)<0:=by
   have:=Rat.mul_pos (show 0 < -(R.T q).c ((R.T p).B (R.r p)) by grind) h2
   grind
  grind
 ·have bH:(R.T p).B i<t:=by omega
  have pb:0≤(R.T q).c ((R.T p).B i):=bq.first _ (by rw[hq];exact bH)
  have hA:0<(R.T p).A i (R.s p):=by
   false_or_by_contra
   rename_i hn
   have:0≤(R.T q).c ((R.T p).B i)*(-(R.T p).A i (R.s p)):=Rat.mul_nonneg pb (by grind)
   grind
  have Lf:=hd p gG ia
  unfold sA at Lf
  have e0:(0:Rat)/(R.T p).A (R.r p) (R.s p)=0:=by grind
  have e1:(0:Rat)/(R.T p).A i (R.s p)=0:=by grind
  rcases bp.least i hi hA with h | h
  ·rw[Lf,QD,e0,e1]at h;exact absurd h (by decide)
  ·have:=h.2;omega
theorem short(t:Nat):∀a b,a≤b→b≤len→(∀k,a≤k→k<b→R.sA k)→
  (∀k,a≤k→k<b→R.s k<t∧(R.T k).B (R.r k)<t)→b<a+2^t:=by
 induction t with
 | zero=>
  intro a b AT hb hd bH
  by_cases e:a=b
  ·subst e;simp
  ·have:=bH a (Nat.le_refl _) (by omega);omega
 | succ t ih=>
  intro a b AT hb hd bH
  have hle:∀k,a≤k→k<b→R.s k≤t∧(R.T k).B (R.r k)≤t:=fun k h1 h2=>by
   have:=bH k h1 h2;omega
  have h2:2^(t+1)=2^t+2^t:=by rw[Nat.pow_succ];omega
  have tW:0<2^t:=Nat.pow_pos (by omega)
  have once:∀k l,a≤k→k<l→l<b→(R.s k=t∨(R.T k).B (R.r k)=t)→¬(R.s l=t∨(R.T l).B (R.r l)=t):=by
   intro k l hk Lg hl jR kJ
   rcases jR with jR | jR
   ·
    have aM:R.s l=t:=by
     rcases kJ with h | h
     ·exact h
     ·exact(R.HE hb hd hle (p:=l) (q:=k) (by omega) (by omega) (by omega) (by omega) h jR).elim
    have lY:R.basic (k+1) t:=(R.Dy (by omega) t).2 (.inl jR.symm)
    have nt:¬R.basic l t:=by rw[←aM];exact R.Ld (by omega)
    obtain⟨x,h1,h2,h3⟩:=R.change (a:=k+1) (b:=l) (by omega) (by omega) t (fun h=>nt (h.1 lY))
    have hx:∀y,k+1≤y→y≤l→R.basic y t:=by
     intro y hy
     induction y with
     | zero=>omega
     | succ y Lh=>
      intro gi
      by_cases e:k=y
      ·subst e;exact lY
      ·have:=Lh (by omega) (by omega)
       refine(R.Dy (by omega) t).2 (.inr ⟨this,fun e=> ?_⟩)
       exact R.HE hb hd hle (p:=y) (q:=k) (by omega) (by omega) (by omega) (by omega) e.symm jR
    exact nt (hx l (by omega) (Nat.le_refl _))
   ·have aM:(R.T l).B (R.r l)=t:=by
     rcases kJ with h | h
     ·exact(R.HE hb hd hle (p:=k) (q:=l) (by omega) (by omega) (by omega) (by omega) jR h).elim
     ·exact h
    have lY:¬R.basic (k+1) t:=by
     rw[R.Dy (by omega) t]
     rintro(h | h)
     ·exact R.Ld (k:=k) (by omega) (by rw[←h,←jR];exact R.Le (by omega))
     ·exact h.2 jR.symm
    have nt:R.basic l t:=by rw[←aM];exact R.Le (by omega)
    have hx:∀y,k+1≤y→y≤l→¬R.basic y t:=by
     intro y hy
     induction y with
     | zero=>omega
     | succ y Lh=>
      intro gi
      by_cases e:k=y
      ·subst e;exact lY
      ·have:=Lh (by omega) (by omega)
       rw[R.Dy (by omega) t]
       rintro(h | h)
       ·exact R.HE hb hd hle (p:=k) (q:=y) (by omega) (by omega) (by omega) (by omega) jR h.symm
       ·exact this h.1
    exact hx l (by omega) (Nat.le_refl _) nt
  by_cases hex:∃k,a≤k∧k<b∧(R.s k=t∨(R.T k).B (R.r k)=t)
  ·obtain⟨k,iU,jf,eG⟩:=hex
   have h3:=ih a k (by omega) (by omega) (fun x h1 h2=>hd x h1 (by omega)) (fun x h1 h2=>by
    have hl:=hle x h1 (by omega)
    have hn:¬(R.s x=t∨(R.T x).B (R.r x)=t):=fun h=>once x k h1 h2 jf h eG
    omega)
   have h4:=ih (k+1) b (by omega) hb (fun x h1 h2=>hd x (by omega) h2) (fun x h1 h2=>by
    have hl:=hle x (by omega) h2
    have hn:=once k x iU (by omega) h2 eG
    omega)
   omega
  ·have h3:=ih a b AT hb hd (fun x h1 h2=>by
    have hl:=hle x h1 h2
    have hn:¬(R.s x=t∨(R.T x).B (R.r x)=t):=fun h=>hex ⟨x,h1,h2,h⟩
    omega)
   omega
end qT
end ao
end Lp
namespace Lp
namespace ao
structure jq(T S:ao):Prop where
 m:S.m=T.m
 n:S.n=T.n
 mG:∀x,S.oz x↔T.oz x
 cost:∀x,T.oz x→S.cost x=T.cost x
theorem jq.symm{T S:ao}(h:jq T S):jq S T:=⟨h.m.symm,h.n.symm,fun x=>(h.mG x).symm,fun x hx=>(h.cost x ((h.mG x).1 hx)).symm⟩
theorem jq.trans{T S R:ao}(h:jq T S)(h':jq S R):jq T R:=
 ⟨h'.m.trans h.m,h'.n.trans h.n,fun x=>(h'.mG x).trans (h.mG x),fun x hx=>(h'.cost x ((h.mG x).2 hx)).trans (h.cost x hx)⟩
theorem jq.pivot{T:ao}{r s:Nat}(hr:r<T.m)(hp:T.A r s≠0):jq T (T.pivot r s):=
 ⟨rfl,rfl,fun x=>K9 hr hp x,fun x hx=>Qx hr x hx⟩
theorem Z8{T S:ao}(h:jq T S)(hT:T.WF)(hS:S.WF)(hB:∀i,i<T.m→S.B i=T.B i):S.c S.n=T.c T.n:=by
 have h1:=vX hT T.n (Nat.le_refl _)
 have h2:=h.cost _ h1
 rw[AQ hT T.n (Nat.le_refl _)]at h2
 unfold cost at h2
 rw[h.n,AP T hT.lt _ (Nat.le_refl _),mE]at h2
 ·rw[h.n];grind
 ·intro i hi
  rw[←hB i hi,hS.zero i (by rw[h.m];exact hi)];grind
def Dz(n:Nat):Nat→List (List Nat)
 | 0=>[[]]
 | m+1=>(Dz n m).flatMap fun l=>(List.range n).map fun j=>l ++ [j]
theorem Z9(n m:Nat)(f:Nat→Nat)(h:∀i,i<m→f i<n):(List.range m).map f∈Dz n m:=by
 induction m with
 | zero=>simp[Dz]
 | succ m ih=>
  simp only[Dz,List.mem_flatMap,List.mem_map,List.mem_range]
  exact⟨_,ih (fun i hi=>h i (by omega)),f m,h m (by omega),by rw[List.range_succ,List.map_append];rfl⟩
theorem QE{α:Type}(p q:α→Bool)(l:List α)(h:∀x,x∈l→p x=true→q x=true)
  (hx:∃x,x∈l∧q x=true∧p x=false):l.countP p<l.countP q:=by
 induction l with
 | nil=>obtain⟨x,hx,_⟩:=hx;cases hx
 | cons a l ih=>
  have hle:l.countP p≤l.countP q:=List.countP_mono_left fun x hx hp=>h x (List.mem_cons_of_mem _ hx) hp
  rw[List.countP_cons,List.countP_cons]
  obtain⟨x,ee,fm,ic⟩:=hx
  rcases List.mem_cons.1 ee with e | e
  ·subst e
   rw[fm,ic];simp;omega
  ·have:=ih (fun y hy=>h y (List.mem_cons_of_mem _ hy)) ⟨x,e,fm,ic⟩
   have ha:=h a (List.mem_cons_self ..)
   cases hp:p a
   ·simp;omega
   ·rw[ha hp];simp;omega
def HF(T:ao)(l:List Nat):Prop:=∃S:ao,S.WF∧jq T S∧(List.range T.m).map S.B=l∧T.c T.n<S.c S.n
open Classical in
noncomputable def tX(T:ao):Nat:=(Dz T.n T.m).countP fun l=>decide (HF T l)
theorem HF.of{T S:ao}(h:jq T S)(hv:T.c T.n≤S.c S.n){l:List Nat}(hb:HF S l):HF T l:=by
 obtain⟨R,h1,h2,h3,h4⟩:=hb
 refine⟨R,h1,h.trans h2,by rw[←h.m];exact h3,by grind⟩
open Classical in
theorem aaa{T S:ao}(h:jq T S)(hv:T.c T.n≤S.c S.n):tX S≤tX T:=by
 unfold tX
 rw[h.m,h.n]
 exact List.countP_mono_left fun l _ hp=>by
  have:=of_decide_eq_true hp
  exact decide_eq_true (this.of h hv)
open Classical in
theorem aab{T S:ao}(h:jq T S)(hS:S.WF)(hv:T.c T.n<S.c S.n):tX S<tX T:=by
 unfold tX
 rw[h.m,h.n]
 refine QE _ _ _ (fun l _ hp=> ?_) ⟨(List.range T.m).map S.B,?_,?_,?_⟩
 ·have:=of_decide_eq_true hp
  exact decide_eq_true (this.of h (Rat.le_of_lt hv))
 ·exact Z9 _ _ _ (fun i hi=>by rw[←h.n];exact hS.lt i (by rw[h.m];exact hi))
 ·exact decide_eq_true ⟨S,hS,h,rfl,hv⟩
 ·refine decide_eq_false ?_
  rintro⟨R,h1,h2,h3,h4⟩
  have:R.c R.n=S.c S.n:=Z8 h2 hS h1 (fun i hi=>by
   rw[h.m]at h3 hi
   exact List.map_inj_left.1 h3 i (List.mem_range.2 hi))
  grind
theorem aac{T:ao}{u r s:Nat}(hf:T.kT)(hb:T.sy u r s):
  T.c T.n≤(T.pivot r s).c (T.pivot r s).n∧(T.A r T.n≠0→T.c T.n<(T.pivot r s).c (T.pivot r s).n):=by
 have e:(T.pivot r s).c (T.pivot r s).n=T.c T.n-T.c s*(T.A r T.n/T.A r s):=rfl
 rw[e]
 have hq:=La (hf r hb.rm) hb.pos
 have hn:=hb.neg
 constructor
 ·have:=Rat.mul_nonneg (show 0≤- T.c s by grind) hq
  grind
 ·intro h0
  have hp:0<T.A r T.n/T.A r s:=by
   have tW:=hb.pos
   have:T.A r T.n/T.A r s≠0:=fun h=>h0 (by
    have:T.A r T.n/T.A r s*T.A r s=T.A r T.n:=by grind
    grind)
   grind
  have:=Rat.mul_pos (show 0 < - T.c s by grind) hp
  grind
def Step(u:Nat)(S T:ao):Prop:=∃r s,T.sy u r s∧S=T.pivot r s
def qT.nil{u:Nat}(T:ao)(hw:T.WF)(hf:T.kT)(hu:u≤T.n):qT u 0:=
 {T:=fun _=>T,r:=fun _=>0,s:=fun _=>0,wf:=hw,dB:=hf,un:=hu
  step:=fun k hk=>absurd hk (by omega),next:=fun k hk=>absurd hk (by omega)}
def qT.snoc{u h:Nat}(R:qT u h)(r s:Nat)(hb:(R.T h).sy u r s):qT u (h+1):=
 {T:=fun k=>if k≤h then R.T k else(R.T h).pivot r s
  r:=fun k=>if k<h then R.r k else r
  s:=fun k=>if k<h then R.s k else s
  wf:=by simpa using R.wf
  dB:=by simpa using R.dB
  un:=by simpa using R.un
  step:=fun k hk=>by
   simp only[show k≤h by omega,if_true]
   by_cases e:k<h
   ·simp only[e,if_true];exact R.step k e
   ·simp only[e,if_false]
    obtain rfl:k=h:=by omega
    exact hb
  next:=fun k hk=>by
   simp only[show k≤h by omega,if_true]
   by_cases e:k<h
   ·simp only[e,if_true,show k+1≤h by omega];exact R.next k e
   ·simp only[e,if_false]
    obtain rfl:k=h:=by omega
    simp only[show ¬(k+1≤k) by omega,if_false]}
theorem ends(u:Nat):∀(v:Nat)(T:ao),T.WF→T.kT→u≤T.n→tX T≤v→Acc (Step u) T:=by
 intro v
 induction v using Nat.strongRecOn with
 | _ v ih=>
  intro T hw hf hu hv
  have key:∀d h (R:qT u h),(∀k,k<h→R.sA k)→tX (R.T h)≤v→2^(R.T 0).n≤h+d→Acc (Step u) (R.T h):=by
   intro d
   induction d with
   | zero=>
    intro h R hd hr hp
    have:=R.short (R.T 0).n 0 h (by omega) (Nat.le_refl _) (fun k _ hk=>hd k hk) (fun k _ hk=>by
     refine⟨?_,?_⟩
     ·have:=R.sn hk
      rw[R.AS k (by omega)]at this;exact this
     ·have:=(R.vY k (by omega)).lt _ (R.step k hk).rm
      rw[R.AS k (by omega)]at this;exact this)
    omega
   | succ d ihd=>
    intro h R hd hr hp
    refine Acc.intro _ fun S hS=> ?_
    obtain⟨r,s,hb,rfl⟩:=hS
    have Li:=R.vY h (Nat.le_refl _)
    have yo:=R.Z6 h (Nat.le_refl _)
    have pZ:u≤(R.T h).n:=by rw[R.AS h (Nat.le_refl _)];exact R.un
    have tW:=hb.pos
    have bD:(R.T h).A r s≠0:=by grind
    have qU:s<(R.T h).n:=by have:=hb.su;omega
    have DB:=jq.pivot hb.rm bD
    have nz:=aac yo hb
    by_cases h0:(R.T h).A r (R.T h).n=0
    ·have e:(R.snoc r s hb).T (h+1)=(R.T h).pivot r s:=by
      show (if h+1≤h then _ else _)=_
      rw[if_neg (by omega)]
     rw[←e]
     refine ihd (h+1) (R.snoc r s hb) (fun k hk=> ?_) ?_ ?_
     ·unfold qT.sA
      have e1:(R.snoc r s hb).T k=R.T k:=by
       show (if k≤h then _ else _)=_
       rw[if_pos (by omega)]
      rw[e1]
      by_cases ek:k<h
      ·have e2:(R.snoc r s hb).r k=R.r k:=by
        show (if k<h then _ else _)=_
        rw[if_pos ek]
       rw[e2];exact hd k ek
      ·obtain rfl:k=h:=by omega
       have e2:(R.snoc r s hb).r k=r:=by
        show (if k<k then _ else _)=_
        rw[if_neg (by omega)]
       rw[e2];exact h0
     ·rw[e];exact Nat.le_trans (aaa DB nz.1) hr
     ·have e3:(R.snoc r s hb).T 0=R.T 0:=by
       show (if 0≤h then R.T 0 else(R.T h).pivot r s)=_
       rw[if_pos (by omega)]
      rw[e3];omega
    ·have bH:=aab DB (AR Li hb.rm qU bD) (nz.2 h0)
     exact ih (tX ((R.T h).pivot r s)) (by omega) _ (AR Li hb.rm qU bD) (Lb yo hb) pZ (Nat.le_refl _)
  have:=key (2^T.n) 0 (qT.nil T hw hf hu) (fun k hk=>absurd hk (by omega)) hv (by
   show 2^T.n≤0+2^T.n
   omega)
  exact this
theorem aad{u:Nat}{T:ao}(hw:T.WF)(hf:T.kT)(hu:u≤T.n):Acc (Step u) T:=ends u _ T hw hf hu (Nat.le_refl _)
end ao
end Lp
namespace Lp
structure LP where
 n:Nat
 m:Nat
 free:Nat→Bool
 a:Nat→Nat→Rat
 rel:Nat→Int
 b:Nat→Rat
def kr(r:Int)(x:Rat):Prop:=(r=1→x≤0)∧(r=2→x=0)∧(r=3→0≤x)
def aX(n:Nat)(c x:Nat→Rat):Rat:=aV n (fun j=>c j*x j)
namespace LP
variable (p:LP)
def Valid:Prop:=∀i,i<p.m→p.rel i=1∨p.rel i=2∨p.rel i=3
def dJ(t:Rat)(x:Nat→Rat):Prop:=(∀j,j<p.n→p.free j=false→0≤x j)∧∀i,i<p.m→kr (p.rel i) (aX p.n (p.a i) x-p.b i*t)
def Signed(y:Nat→Rat):Prop:=∀i,i<p.m→(p.rel i=3→0≤y i)∧(p.rel i=1→y i≤0)
def dQ(y:Nat→Rat)(j:Nat):Rat:=aV p.m (fun i=>y i*p.a i j)
def lZ(y:Nat→Rat):Rat:=aV p.m (fun i=>y i*p.b i)
structure vZ(c x y:Nat→Rat):Prop where
 dB:p.dJ 1 x
 signed:p.Signed y
 dR:∀j,j<p.n→0≤c j-p.dQ y j∧(p.free j=true→c j-p.dQ y j≤0)
 eq:p.lZ y=aX p.n c x
structure wa(y:Nat→Rat):Prop where
 signed:p.Signed y
 dR:∀j,j<p.n→p.dQ y j≤0∧(p.free j=true→0≤p.dQ y j)
 pos:0<p.lZ y
structure wb(c x r:Nat→Rat):Prop where
 dB:p.dJ 1 x
 ray:p.dJ 0 r
 neg:aX p.n c r<0
def DC:Prop:=∀x,¬p.dJ 1 x
def yp(c:Nat→Rat)(v:Rat):Prop:=(∃x,p.dJ 1 x∧aX p.n c x=v)∧∀x,p.dJ 1 x→v≤aX p.n c x
def AU(c:Nat→Rat):Prop:=(∃x,p.dJ 1 x)∧∀v,∃x,p.dJ 1 x∧aX p.n c x<v
end LP
theorem QF(n:Nat)(c x y:Nat→Rat):aX n c (fun j=>x j+y j)=aX n c x+aX n c y:=by
 unfold aX
 rw[←K8]
 exact fB fun j _=>by grind
theorem QG(n:Nat)(c x:Nat→Rat)(k:Rat):aX n c (fun j=>k*x j)=k*aX n c x:=by
 unfold aX
 rw[←tU]
 exact fB fun j _=>by grind
theorem aae{n:Nat}{c c' x x':Nat→Rat}(h:∀j,j<n→c j=c' j)(h':∀j,j<n→x j=x' j):aX n c x=aX n c' x':=
 fB fun j hj=>by rw[h j hj,h' j hj]
namespace LP
variable {p:LP}
theorem aaf(p:LP)(y x:Nat→Rat):aX p.n (p.dQ y) x=aV p.m (fun i=>y i*aX p.n (p.a i) x):=by
 unfold aX dQ
 have h1:∀j,aV p.m (fun i=>y i*p.a i j)*x j=aV p.m (fun i=>y i*p.a i j*x j):=fun j=>(sw _ _ _).symm
 have h2:∀i,y i*aV p.n (fun j=>p.a i j*x j)=aV p.n (fun j=>y i*p.a i j*x j):=fun i=>by
  rw[←tU]
  exact fB fun j _=>by grind
 rw[fB (fun j _=>h1 j),fB (fun i _=>h2 i),HC]
theorem QH(hv:p.Valid){t:Rat}{x y:Nat→Rat}(hx:p.dJ t x)(hy:p.Signed y):p.lZ y*t≤aX p.n (p.dQ y) x:=by
 rw[aaf]
 unfold lZ
 rw[←sw]
 refine HD fun i hi=> ?_
 have h1:=hx.2 i hi
 have h2:=hy i hi
 rcases hv i hi with e | e | e
 ·have h3:=h1.1 e
  have h4:=h2.2 e
  have h5:0≤(- y i)*(- (aX p.n (p.a i) x-p.b i*t)):=Rat.mul_nonneg (by grind) (by grind)
  grind
 ·have h3:=h1.2.1 e
  have:aX p.n (p.a i) x=p.b i*t:=by grind
  rw[this];grind
 ·have h3:=h1.2.2 e
  have h4:=h2.1 e
  have h5:0≤y i*(aX p.n (p.a i) x-p.b i*t):=Rat.mul_nonneg h4 h3
  grind
theorem wa.isInf(hv:p.Valid){y:Nat→Rat}(h:p.wa y):p.DC:=fun x hx=>by
 have h1:=QH hv hx h.signed
 have h2:aX p.n (p.dQ y) x≤0:=by
  have:aX p.n (p.dQ y) x≤aV p.n (fun _=>0):=HD fun j hj=>by
   have h3:=h.dR j hj
   cases hf:p.free j with
   | true=>have h4:=h3.2 hf;have:p.dQ y j=0:=by grind
           rw[this];grind
   | false=>
    have h5:=hx.1 j hj hf
    have:0≤(- p.dQ y j)*x j:=Rat.mul_nonneg (by grind) h5
    grind
  rwa [HB]at this
 have:=h.pos
 grind
theorem below{c x y:Nat→Rat}(hv:p.Valid)(hx:p.dJ 1 x)(hy:p.Signed y)(hc:∀j,j<p.n→0≤c j-p.dQ y j∧(p.free j=true→c j-p.dQ y j≤0)):p.lZ y≤aX p.n c x:=by
 have h1:=QH hv hx hy
 have h2:aX p.n (p.dQ y) x≤aX p.n c x:=HD fun j hj=>by
  have h3:=hc j hj
  cases hf:p.free j with
  | true=>have h4:=h3.2 hf;have:p.dQ y j=c j:=by grind
          rw[this];exact Rat.le_refl
  | false=>
   have h5:=hx.1 j hj hf
   have:0≤(c j-p.dQ y j)*x j:=Rat.mul_nonneg h3.1 h5
   grind
 grind
theorem vZ.Lj(hv:p.Valid){c x y:Nat→Rat}(h:p.vZ c x y):p.yp c (aX p.n c x):=
 ⟨⟨x,h.dB,rfl⟩,fun x' qD=>by rw[←h.eq];exact below hv qD h.signed h.dR⟩
theorem aag{r:Int}{x y:Rat}(hx:kr r x)(hy:kr r y):kr r (x+y):=
 ⟨fun e=>by have:=hx.1 e;have:=hy.1 e;grind,fun e=>by have:=hx.2.1 e;have:=hy.2.1 e;grind,fun e=>by have:=hx.2.2 e;have:=hy.2.2 e;grind⟩
theorem aah{r:Int}{x k:Rat}(hx:kr r x)(hk:0≤k):kr r (k*x):=
 ⟨fun e=>by have:=hx.1 e;have:0≤k*(-x):=Rat.mul_nonneg hk (by grind)
            grind,fun e=>by have:=hx.2.1 e;rw[this];grind,fun e=>Rat.mul_nonneg hk (hx.2.2 e)⟩
theorem dJ.move{t:Rat}{x r:Nat→Rat}(hx:p.dJ t x)(hr:p.dJ 0 r){k:Rat}(hk:0≤k):p.dJ t (fun j=>x j+k*r j):=by
 refine⟨fun j hj hf=> ?_,fun i hi=> ?_⟩
 ·have h1:=hx.1 j hj hf
  have h2:=Rat.mul_nonneg hk (hr.1 j hj hf)
  grind
 ·have h1:=aag (hx.2 i hi) (aah (hr.2 i hi) hk)
  rw[QF,QG]
  have e:aX p.n (p.a i) x-p.b i*t+k*(aX p.n (p.a i) r-p.b i*0)=aX p.n (p.a i) x+k*aX p.n (p.a i) r-p.b i*t:=by grind
  rwa [e]at h1
theorem wb.QI{c x r:Nat→Rat}(h:p.wb c x r):p.AU c:=by
 refine⟨⟨x,h.dB⟩,fun v=> ?_⟩
 have hn:=h.neg
 by_cases hv:aX p.n c x<v
 ·exact⟨x,h.dB,hv⟩
 ·have hd:0 < - aX p.n c r:=by grind
  have hq:0≤(aX p.n c x-v)/(- aX p.n c r):=ao.La (by grind) hd
  refine⟨_,h.dB.move h.ray (k:=(aX p.n c x-v)/(- aX p.n c r)+1) (by grind),?_⟩
  rw[QF,QG]
  have e:(aX p.n c x-v)/(- aX p.n c r)*(- aX p.n c r)=aX p.n c x-v:=by grind
  grind
theorem aai{c:Nat→Rat}{v:Rat}(h:p.yp c v)(k:p.AU c):False:=by
 obtain⟨x,hx,bH⟩:=k.2 v
 have:=h.2 x hx
 grind
theorem aaj{c:Nat→Rat}{v w:Rat}(h:p.yp c v)(k:p.yp c w):v=w:=by
 obtain⟨⟨x,hx,rfl⟩,h2⟩:=h
 obtain⟨⟨y,hy,rfl⟩,k2⟩:=k
 have h3:=h2 y hy
 have h4:=k2 x hx
 grind
end LP
def gp(f:Nat→Rat):Option Nat→Rat
 | some k=>f k
 | none=>0
structure dK(p:LP)(A:Nat→Nat→Rat)(w u:Nat)(plus:Nat→Nat)(minus slack:Nat→Option Nat)(unit:Nat→Nat)(sg:Nat→Rat):Prop where
 valid:p.Valid
 uw:u≤w
 QJ:∀i,i<p.m→sg i=1∨sg i = -1
 rhs:∀i,i<p.m→A i w=p.b i*sg i∧0≤A i w
 pl:∀j,j<p.n→plus j<u∧∀i,i<p.m→A i (plus j)=p.a i j*sg i
 mi:∀j,j<p.n→(p.free j=false→minus j=none)∧∀k,minus j=some k→k<u∧∀i,i<p.m→A i k = - (p.a i j*sg i)
 Lk:∀j,j<p.n→p.free j=true→∃k,minus j=some k
 sl:∀i,i<p.m→(p.rel i=2→slack i=none)∧(p.rel i≠2→∃k,slack i=some k)∧∀k,slack i=some k→k<u∧∀q,q<p.m→A q k=if q=i then(if p.rel i=1 then sg i else-sg i)else 0
 un:∀i,i<p.m→unit i<w∧∀q,q<p.m→A q (unit i)=if q=i then 1 else 0
 sum:∀f,aV u f=aV p.n (fun j=>f (plus j)+gp f (minus j))+aV p.m (fun i=>gp f (slack i))
namespace dK
variable {p:LP} {A:Nat→Nat→Rat} {w u:Nat} {plus:Nat→Nat} {minus slack:Nat→Option Nat} {unit:Nat→Nat} {sg:Nat→Rat}
theorem QK{u w:Nat}(h:u≤w)(f:Nat→Rat)(h0:∀j,u≤j→j<w→f j=0):aV w f=aV u f:=by
 induction w with
 | zero=>obtain rfl:u=0:=by omega
         rfl
 | succ w ih=>
  by_cases e:u=w+1
  ·rw[e]
  ·rw[fJ,ih (by omega) (fun j h1 h2=>h0 j h1 (by omega)),h0 w (by omega) (by omega)];grind
def vec(plus:Nat→Nat)(minus:Nat→Option Nat)(z:Nat→Rat)(j:Nat):Rat:=z (plus j)-gp z (minus j)
theorem meets(L:dK p A w u plus minus slack unit sg){z:Nat→Rat}{t:Rat}(hs:∀i,i<p.m→aV (w+1) (fun j=>A i j*z j)=0)(hw:z w = - t)
  (hn:∀j,j<u→0≤z j) (ha:∀j,u≤j→j<w→z j=0):p.dJ t (vec plus minus z):=by
 refine⟨fun j hj hf=> ?_,fun i hi=> ?_⟩
 ·unfold vec
  rw[(L.mi j hj).1 hf]
  have:=hn _ (L.pl j hj).1
  simp only[gp];grind
 ·have h1:=hs i hi
  rw[fJ,hw,QK L.uw _ (fun j h1 h2=>by rw[ha j h1 h2];grind),L.sum]at h1
  have h2:aV p.n (fun j=>A i (plus j)*z (plus j)+gp (fun k=>A i k*z k) (minus j))=aX p.n (p.a i) (vec plus minus z)*sg i:=by
   unfold aX
   rw[←sw]
   refine fB fun j hj=> ?_
   rw[(L.pl j hj).2 i hi]
   unfold vec
   cases hm:minus j with
   | none=>simp only[gp];grind
   | some k=>
    have:=((L.mi j hj).2 k hm).2 i hi
    simp only[gp,this];grind
  rw[h2]at h1
  have h3:aV p.m (fun q=>gp (fun k=>A i k*z k) (slack q))=gp (fun k=>A i k*z k) (slack i):=by
   refine qd hi _ fun q hq bD=> ?_
   cases hm:slack q with
   | none=>rfl
   | some k=>
    have:=((L.sl q hq).2.2 k hm).2 i hi
    rw[if_neg (fun e=>bD e.symm)]at this
    simp only[gp,this];grind
  rw[h3,(L.rhs i hi).1]at h1
  have eC:=L.QJ i hi
  have dS:=L.sl i hi
  have key:∀s:Rat,aX p.n (p.a i) (vec plus minus z)*sg i+s*sg i+p.b i*sg i * -t=0→aX p.n (p.a i) (vec plus minus z)-p.b i*t = - s:=by
   intro s hs
   rcases eC with e | e <;> rw[e]at hs <;> grind
  rcases L.valid i hi with e | e | e
  ·obtain⟨k,hk⟩:=dS.2.1 (by omega)
   have h4:=dS.2.2 k hk
   have h5:=h4.2 i hi
   rw[if_pos rfl,if_pos e]at h5
   have h6:=hn k h4.1
   rw[hk]at h1
   simp only[gp,h5]at h1
   have h7:=key (z k) (by grind)
   exact⟨fun _=>by grind,fun e'=>by omega,fun e'=>by omega⟩
  ·rw[dS.1 e]at h1
   simp only[gp]at h1
   have h7:=key 0 (by grind)
   exact⟨fun e'=>by omega,fun _=>by grind,fun e'=>by omega⟩
  ·obtain⟨k,hk⟩:=dS.2.1 (by omega)
   have h4:=dS.2.2 k hk
   have h5:=h4.2 i hi
   rw[if_pos rfl,if_neg (by omega)]at h5
   have h6:=hn k h4.1
   rw[hk]at h1
   simp only[gp,h5]at h1
   have h7:=key (- z k) (by grind)
   exact⟨fun e'=>by omega,fun e'=>by omega,fun _=>by grind⟩
def qV(A:Nat→Nat→Rat)(m w:Nat)(c0 c:Nat→Rat):Prop:=∃l:Nat→Rat,∀j,j≤w→c j=c0 j-aV m (fun k=>l k*A k j)
section
variable (L:dK p A w u plus minus slack unit sg) {c0 c:Nat→Rat} (ho:qV A p.m w c0 c)
include L ho
theorem Ll:(∀j,j<p.n→p.dQ (fun i=>sg i*(c0 (unit i)-c (unit i))) j=c0 (plus j)-c (plus j)∧∀k,minus j=some k→p.dQ (fun i=>sg i*(c0 (unit i)-c (unit i))) j=c k-c0 k)
  ∧p.lZ (fun i=>sg i*(c0 (unit i)-c (unit i)))=c0 w-c w∧(∀i,i<p.m→∀k,slack i=some k→sg i*(c0 (unit i)-c (unit i))=if p.rel i=1 then c0 k-c k else c k-c0 k):=by
 obtain⟨l,hl⟩:=ho
 have hu:∀i,i<p.m→c0 (unit i)-c (unit i)=l i:=fun i hi=>by
  have h1:=L.un i hi
  rw[hl _ (by omega),qd hi (fun k=>l k*A k (unit i)) (fun q hq bD=>by rw[h1.2 q hq,if_neg bD];grind),h1.2 i hi,if_pos rfl];grind
 refine⟨fun j hj=>⟨?_,fun k hk=> ?_⟩,?_,fun i hi k hk=> ?_⟩
 ·have h1:=L.pl j hj
  have bH:=L.uw
  rw[hl _ (by omega)]
  unfold LP.dQ
  rw[fB (g:=fun k=>l k*A k (plus j)) (fun i hi=>by show sg i*(c0 (unit i)-c (unit i))*_=_;rw[hu i hi,h1.2 i hi];grind)]
  grind
 ·have h1:=(L.mi j hj).2 k hk
  have bH:=L.uw
  rw[hl _ (by omega)]
  unfold LP.dQ
  rw[fB (g:=fun q=> - (l q*A q k)) (fun i hi=>by show sg i*(c0 (unit i)-c (unit i))*_=_;rw[hu i hi,h1.2 i hi];grind),HA]
  grind
 ·rw[hl _ (Nat.le_refl _)]
  unfold LP.lZ
  rw[fB (g:=fun k=>l k*A k w) (fun i hi=>by show sg i*(c0 (unit i)-c (unit i))*_=_;rw[hu i hi,(L.rhs i hi).1];grind)]
  grind
 ·have h1:=(L.sl i hi).2.2 k hk
  have bH:=L.uw
  rw[hu i hi,hl k (by omega),qd hi (fun q=>l q*A q k) (fun q hq bD=>by rw[h1.2 q hq,if_neg bD];grind),h1.2 i hi,if_pos rfl]
  split <;> grind
theorem QL(h0:∀i,i<p.m→∀k,slack i=some k→c0 k=0)(hn:∀j,j<u→0≤c j):p.Signed (fun i=>sg i*(c0 (unit i)-c (unit i))):=fun i hi=>by
 have h1:=(Ll L ho).2.2 i hi
 refine⟨fun e=> ?_,fun e=> ?_⟩
 ·obtain⟨k,hk⟩:=(L.sl i hi).2.1 (by omega)
  have h2:=h1 k hk
  have h3:=hn k ((L.sl i hi).2.2 k hk).1
  rw[if_neg (by omega),h0 i hi k hk]at h2
  simp only[h2];grind
 ·obtain⟨k,hk⟩:=(L.sl i hi).2.1 (by omega)
  have h2:=h1 k hk
  have h3:=hn k ((L.sl i hi).2.2 k hk).1
  rw[if_pos e,h0 i hi k hk]at h2
  simp only[h2];grind
theorem aak(h0:∀j,j<u→c0 j=0)(hw:c0 w=0)(hn:∀j,j<u→0≤c j)(iO:c w<0):p.wa (fun i=>sg i*(c0 (unit i)-c (unit i))):=by
 have hd:=Ll L ho
 refine⟨QL L ho (fun i hi k hk=>h0 k ((L.sl i hi).2.2 k hk).1) hn,fun j hj=>⟨?_,fun hf=> ?_⟩,?_⟩
 ·have h1:=L.pl j hj
  rw[(hd.1 j hj).1,h0 _ h1.1]
  have:=hn _ h1.1
  grind
 ·obtain⟨k,hk⟩:=L.Lk j hj hf
  have h1:=(L.mi j hj).2 k hk
  rw[(hd.1 j hj).2 k hk,h0 k h1.1]
  have:=hn _ h1.1
  grind
 ·rw[hd.2.1,hw];grind
end
end dK
end Lp
namespace Lp
namespace ao
structure Rows(A:Nat→Nat→Rat)(m' w:Nat)(T:ao):Prop where
 m:T.m=m'
 n:T.n=w
 mul:∃R:Nat→Nat→Rat,∀i,i<m'→∀j,j≤w→T.A i j=aV m' (fun k=>R i k*A k j)
 mG:∀x,T.oz x↔∀i,i<m'→aV (w+1) (fun j=>A i j*x j)=0
section
variable {A:Nat→Nat→Rat} {m w:Nat} {T:ao}
theorem aal(hA:∀i j,T.A i j=A i j)(hm:T.m=m)(hn:T.n=w):Rows A m w T:=by
 refine⟨hm,hn,⟨fun i k=>if k=i then 1 else 0,fun i hi j _=> ?_⟩,fun x=> ?_⟩
 ·rw[qd hi (fun k=>(if k=i then 1 else 0)*A k j) (fun q _ bD=>by rw[if_neg bD];grind),if_pos rfl,hA];grind
 ·unfold oz
  rw[hm,hn]
  constructor
  ·intro h i hi
   rw[←h i hi]
   exact fB fun j _=>by rw[hA]
  ·intro h i hi
   rw[←h i hi]
   exact fB fun j _=>by rw[hA]
theorem Rows.pivot(h:Rows A m w T){r s:Nat}(hr:r<m)(hp:T.A r s≠0):Rows A m w (T.pivot r s):=by
 obtain⟨R,hR⟩:=h.mul
 refine⟨h.m,h.n,⟨fun i k=>if i=r then R r k/T.A r s else R i k-T.A i s*(R r k/T.A r s),fun i hi j hj=> ?_⟩,fun x=> ?_⟩
 ·have e1:aV m (fun k=>R r k/T.A r s*A k j)=T.A r j/T.A r s:=by
   rw[hR r hr j hj,Rat.div_def,←sw]
   exact fB fun k _=>by grind
  by_cases e:i=r
  ·simp only[ao.pivot,if_pos e]
   exact e1.symm
  ·simp only[ao.pivot,if_neg e]
   rw[←e1,hR i hi j hj,←tU,←Dw]
   exact fB fun k _=>by grind
 ·rw[K9 (by rw[h.m];exact hr) hp,h.mG]
theorem Rows.off(h:Rows A m w T)(c0 f:Nat→Rat){c:Nat→Rat}(hc:∀j,j≤w→c j=c0 j-aV m (fun i=>f i*T.A i j)):dK.qV A m w c0 c:=by
 obtain⟨R,hR⟩:=h.mul
 refine⟨fun k=>aV m (fun i=>f i*R i k),fun j hj=> ?_⟩
 rw[hc j hj]
 congr 1
 rw[fB (g:=fun i=>aV m (fun k=>f i*R i k*A k j)) (fun i hi=>by rw[hR i hi j hj,←tU];exact fB fun k _=>by grind),HC]
 exact fB fun k _=>sw _ _ _
theorem Rows.QM(h:Rows A m w T){c0:Nat→Rat}(ho:dK.qV A m w c0 T.c){r s:Nat}(hr:r<m):dK.qV A m w c0 (T.pivot r s).c:=by
 obtain⟨R,hR⟩:=h.mul
 obtain⟨l,hl⟩:=ho
 refine⟨fun k=>l k+T.c s*(R r k/T.A r s),fun j hj=> ?_⟩
 show T.c j-T.c s*(T.A r j/T.A r s)=_
 have e1:aV m (fun k=>R r k/T.A r s*A k j)=T.A r j/T.A r s:=by
  rw[hR r hr j hj,Rat.div_def,←sw]
  exact fB fun k _=>by grind
 have e2:aV m (fun k=>(l k+T.c s*(R r k/T.A r s))*A k j)=aV m (fun k=>l k*A k j)+T.c s*aV m (fun k=>R r k/T.A r s*A k j):=by
  rw[←tU,←K8]
  exact fB fun k _=>by grind
 rw[e2,e1,hl j hj]
 grind
theorem Rows.cost(h:Rows A m w T){c0:Nat→Rat}(ho:dK.qV A m w c0 T.c){x:Nat→Rat}(hx:T.oz x):T.cost x=aV (w+1) (fun j=>c0 j*x j):=by
 obtain⟨l,hl⟩:=ho
 unfold ao.cost
 rw[h.n]
 have e1:aV (w+1) (fun j=>aV m (fun k=>l k*A k j)*x j)=0:=by
  rw[fB (g:=fun j=>aV m (fun k=>l k*(A k j*x j))) (fun j _=>by rw[←sw];exact fB fun k _=>by grind),HC]
  refine mE fun k hk=> ?_
  rw[tU,(h.mG x).1 hx k hk];grind
 rw[fB (g:=fun j=>c0 j*x j-aV m (fun k=>l k*A k j)*x j) (fun j hj=>by rw[hl j (by omega)];grind),Dw,e1]
 grind
end
def pt(T:ao)(j:Nat):Rat:=if j=T.n then -1 else aV T.m (fun i=>if T.B i=j then T.A i T.n else 0)
section
variable {T:ao}
theorem QN(h:T.WF)(j:Nat):T.pt j = - T.dir T.n j:=by
 unfold pt dir
 by_cases e:j=T.n
 ·rw[if_pos e,if_pos e,mE]
  ·grind
  ·intro i hi
   have:=h.lt i hi
   rw[if_neg (by omega)]
 ·rw[if_neg e,if_neg e];grind
theorem Lm(h:T.WF):T.oz T.pt:=fun i hi=>by
 have:=vX h T.n (Nat.le_refl _) i hi
 rw[fB (g:=fun j=> - (T.A i j*T.dir T.n j)) (fun j _=>by rw[QN h];grind),HA,this];grind
theorem QO(h:T.WF):T.cost T.pt = - T.c T.n:=by
 have:=AQ h T.n (Nat.le_refl _)
 unfold cost at this⊢
 rw[fB (g:=fun j=> - (T.c j*T.dir T.n j)) (fun j _=>by rw[QN h];grind),HA,this]
theorem Ln(h:T.WF){i:Nat}(hi:i<T.m):T.pt (T.B i)=T.A i T.n:=by
 have:=h.lt i hi
 unfold pt
 rw[if_neg (by omega),qd hi,if_pos rfl]
 intro k hk bD
 rw[if_neg (fun e=>bD (h.inj hk hi e))]
theorem QP(hf:T.kT){j:Nat}(hj:j<T.n):0≤T.pt j:=by
 unfold pt
 rw[if_neg (by omega)]
 refine Dx fun i hi=> ?_
 split
 ·exact hf i hi
 ·exact Rat.le_refl
theorem Lo{j:Nat}(hj:j<T.n)(h:∀i,i<T.m→T.B i=j→T.A i T.n=0):T.pt j=0:=by
 unfold pt
 rw[if_neg (by omega)]
 refine mE fun i hi=> ?_
 split
 ·rename_i e;exact h i hi e
 ·rfl
theorem QQ{s:Nat}(h:∀i,i<T.m→T.A i s≤0)(j:Nat):0≤T.dir s j:=by
 unfold dir
 have h1:0≤aV T.m (fun i=> - (if T.B i=j then T.A i s else 0)):=Dx fun i hi=>by
  split
  ·have:=h i hi;grind
  ·grind
 rw[HA]at h1
 split <;> grind
theorem aam(h:T.WF){s:Nat}(hs:s<T.n):T.dir s T.n=0:=by
 unfold dir
 rw[if_neg (by omega),mE]
 ·grind
 ·intro i hi
  have:=h.lt i hi
  rw[if_neg (by omega)]
theorem aan{s j:Nat}(hj:j≠s)(h:∀i,i<T.m→T.B i=j→T.A i s=0):T.dir s j=0:=by
 unfold dir
 rw[if_neg hj,mE]
 ·grind
 ·intro i hi
  split
  ·rename_i e;exact h i hi e
  ·rfl
end
def jL(u w j:Nat):Rat:=if u≤j∧j<w then 1 else 0
theorem QR(u w j:Nat):0≤jL u w j:=by
 unfold jL;split <;> grind
theorem aao{u w j:Nat}(h:j<u):jL u w j=0:=by
 unfold jL;rw[if_neg (by omega)]
theorem QS(u w:Nat):jL u w w=0:=by
 unfold jL;rw[if_neg (by omega)]
section
variable {A:Nat→Nat→Rat} {m w u:Nat} {T:ao}
theorem aap(hW:T.WF)(h:Rows A m w T)(ho:dK.qV A m w (jL u w) T.c){s:Nat}(hs:s<w)(iO:T.c s<0)(hA:∀i,i<T.m→T.A i s≤0):False:=by
 have h1:=AQ hW s (by rw[h.n];omega)
 rw[h.cost ho (vX hW s (by rw[h.n];omega))]at h1
 have h2:0≤aV (w+1) (fun j=>jL u w j*T.dir s j):=Dx fun j _=>Rat.mul_nonneg (QR u w j) (QQ hA j)
 grind
theorem aaq{n k:Nat}(f:Nat→Rat)(h:∀i,i<n→0≤f i)(hk:k<n):f k≤aV n f:=by
 induction n with
 | zero=>omega
 | succ n ih=>
  rw[fJ]
  have h0:=h n (by omega)
  by_cases e:k=n
  ·subst e
   have:0≤aV k f:=Dx fun i hi=>h i (by omega)
   grind
  ·have:=ih (fun i hi=>h i (by omega)) (by omega)
   grind
theorem aar(hW:T.WF)(hF:T.kT)(h:Rows A m w T)(ho:dK.qV A m w (jL u w) T.c)(hv:0≤T.c w):T.c w=0∧∀i,i<T.m→u≤T.B i→T.A i T.n=0:=by
 have h1:=QO hW
 rw[h.cost ho (Lm hW),h.n]at h1
 have h0:∀j,j<w+1→0≤jL u w j*T.pt j:=fun j hj=>by
  by_cases e:j=w
  ·subst e;rw[QS];grind
  ·exact Rat.mul_nonneg (QR u w j) (QP hF (by rw[h.n];omega))
 have h2:=Dx h0
 refine⟨by grind,fun i hi hu=> ?_⟩
 have bH:=hW.lt i hi
 have h3:=aaq _ h0 (k:=T.B i) (by rw[h.n]at bH;omega)
 have QT:=bH
 rw[h.n]at QT
 rw[Ln hW hi]at h3
 have e:jL u w (T.B i)=1:=by unfold jL;rw[if_pos ⟨hu,QT⟩]
 rw[e]at h3
 have:=hF i hi
 grind
end
structure Clean(u k:Nat)(T:ao):Prop where
 zero:∀i,i<T.m→u≤T.B i→T.A i T.n=0
 row:∀i,i<k→i<T.m→u≤T.B i→∀j,j<u→T.A i j=0
section
variable {u k:Nat} {T:ao}
theorem Clean.start(h:∀i,i<T.m→u≤T.B i→T.A i T.n=0):Clean u 0 T:=⟨h,fun i hi=>by omega⟩
theorem Clean.skip(h:Clean u k T)(hk:T.B k<u∨∀j,j<u→T.A k j=0):Clean u (k+1) T:=by
 refine⟨h.zero,fun i hi hm hu=> ?_⟩
 by_cases e:i=k
 ·subst e
  rcases hk with hk | hk
  ·omega
  ·exact hk
 ·exact h.row i (by omega) hm hu
theorem Clean.aas(h:Clean u k T)(hk:k<T.m)(hu:u≤T.B k){s:Nat}(hs:s<u):Clean u (k+1) (T.pivot k s):=by
 have hz:=h.zero k hk hu
 refine⟨fun i hi hb=> ?_,fun i hi hm hb j hj=> ?_⟩
 ·have fR:i<T.m:=hi
  simp only[ao.pivot]at hb⊢
  by_cases e:i=k
  ·rw[if_pos e]at hb;omega
  ·rw[if_neg e]at hb⊢
   rw[h.zero i fR hb,hz,Rat.div_def];grind
 ·have bm:i<T.m:=hm
  simp only[ao.pivot]at hb⊢
  by_cases e:i=k
  ·rw[if_pos e]at hb;omega
  ·rw[if_neg e]at hb⊢
   rw[h.row i (by omega) bm hb j hj,h.row i (by omega) bm hb s hs];grind
theorem Clean.dB(h:Clean u k T)(hF:T.kT)(hk:k<T.m)(hu:u≤T.B k)(s:Nat):(T.pivot k s).kT:=fun i hi=>by
 have fR:i<T.m:=hi
 have hz:=h.zero k hk hu
 have h1:=hF i fR
 show 0≤(if i=k then T.A k T.n/T.A k s else T.A i T.n-T.A i s*(T.A k T.n/T.A k s))
 rw[hz]
 split
 ·rw[Rat.div_def];grind
 ·rw[Rat.div_def];grind
theorem Clean.aat(h:Clean u T.m T){r s:Nat}(hb:T.sy u r s):Clean u (T.pivot r s).m (T.pivot r s):=by
 have hr:T.B r<u:=by
  false_or_by_contra
  have:=h.row r hb.rm hb.rm (by omega) s hb.su
  have:=hb.pos
  grind
 have hs:=hb.su
 refine⟨fun i hi hu=> ?_,fun i _ hi hu j hj=> ?_⟩
 ·have fR:i<T.m:=hi
  simp only[ao.pivot]at hu⊢
  by_cases e:i=r
  ·rw[if_pos e]at hu;omega
  ·rw[if_neg e]at hu⊢
   rw[h.zero i fR hu,h.row i fR fR hu s hs];grind
 ·have fR:i<T.m:=hi
  simp only[ao.pivot]at hu⊢
  by_cases e:i=r
  ·rw[if_pos e]at hu;omega
  ·rw[if_neg e]at hu⊢
   rw[h.row i fR fR hu j hj,h.row i fR fR hu s hs];grind
end
structure DD(p:LP)(w:Nat)(plus:Nat→Nat)(minus slack:Nat→Option Nat)(c c0:Nat→Rat):Prop where
 pl:∀j,j<p.n→c0 (plus j)=c j
 mi:∀j,j<p.n→∀k,minus j=some k→c0 k = - c j
 sl:∀i,i<p.m→∀k,slack i=some k→c0 k=0
 last:c0 w=0
section
variable {p:LP} {A:Nat→Nat→Rat} {w u:Nat} {plus:Nat→Nat} {minus slack:Nat→Option Nat} {unit:Nat→Nat} {sg c c0:Nat→Rat} {T:ao}
theorem QU(L:dK p A w u plus minus slack unit sg)(hc:DD p w plus minus slack c c0){z:Nat→Rat}(ha:∀j,u≤j→j<w→z j=0):
  aV (w+1) (fun j=>c0 j*z j)=aX p.n c (dK.vec plus minus z):=by
 rw[fJ,hc.last,dK.QK L.uw _ (fun j h1 h2=>by rw[ha j h1 h2];grind),L.sum]
 have h1:aV p.m (fun i=>gp (fun j=>c0 j*z j) (slack i))=0:=mE fun i hi=>by
  cases hs:slack i with
  | none=>rfl
  | some k=>simp only[gp];rw[hc.sl i hi k hs];grind
 rw[h1]
 unfold aX dK.vec
 have h2:aV p.n (fun j=>c0 (plus j)*z (plus j)+gp (fun j=>c0 j*z j) (minus j))=aV p.n (fun j=>c j*(z (plus j)-gp z (minus j))):=fB fun j hj=>by
  rw[hc.pl j hj]
  cases hm:minus j with
  | none=>simp only[gp];grind
  | some k=>simp only[gp];rw[hc.mi j hj k hm];grind
 rw[h2];grind
theorem QV(hC:Clean u T.m T){j:Nat}(h1:u≤j)(h2:j<T.n):T.pt j=0:=Lo h2 fun i hi e=>hC.zero i hi (by omega)
theorem QW(L:dK p A w u plus minus slack unit sg)(hW:T.WF)(hF:T.kT)(h:Rows A p.m w T)(hC:Clean u T.m T):p.dJ 1 (dK.vec plus minus T.pt):=by
 have hu:=L.uw
 refine L.meets ((h.mG _).1 (Lm hW)) ?_ (fun j hj=>QP hF (by rw[h.n];omega)) (fun j h1 h2=>QV hC h1 (by rw[h.n];omega))
 unfold pt
 rw[if_pos h.n.symm]
theorem QX(L:dK p A w u plus minus slack unit sg)(hW:T.WF)(h:Rows A p.m w T)(hC:Clean u T.m T)(hc:DD p w plus minus slack c c0)(ho:dK.qV A p.m w c0 T.c):
  aX p.n c (dK.vec plus minus T.pt) = - T.c w:=by
 rw[←QU L hc (fun j h1 h2=>QV hC h1 (by rw[h.n];omega)),←h.cost ho (Lm hW),QO hW,h.n]
theorem aau(L:dK p A w u plus minus slack unit sg)(hW:T.WF)(hF:T.kT)(h:Rows A p.m w T)(hC:Clean u T.m T)(hc:DD p w plus minus slack c c0)(ho:dK.qV A p.m w c0 T.c)(hn:∀j,j<u→0≤T.c j):
  p.vZ c (dK.vec plus minus T.pt) (fun i=>sg i*(c0 (unit i)-T.c (unit i))):=by
 have hd:=dK.Ll L ho
 refine⟨QW L hW hF h hC,dK.QL L ho (fun i hi k hk=>hc.sl i hi k hk) hn,fun j hj=>⟨?_,fun hf=> ?_⟩,?_⟩
 ·have h1:=L.pl j hj
  rw[(hd.1 j hj).1,hc.pl j hj]
  have:=hn _ h1.1
  grind
 ·obtain⟨k,hk⟩:=L.Lk j hj hf
  have h1:=(L.mi j hj).2 k hk
  rw[(hd.1 j hj).2 k hk,hc.mi j hj k hk]
  have:=hn _ h1.1
  grind
 ·rw[hd.2.1,hc.last,QX L hW h hC hc ho];grind
theorem aav(L:dK p A w u plus minus slack unit sg)(hW:T.WF)(hF:T.kT)(h:Rows A p.m w T)(hC:Clean u T.m T)(hc:DD p w plus minus slack c c0)(ho:dK.qV A p.m w c0 T.c){s:Nat}(hs:s<u)(iO:T.c s<0)
  (hA:∀i,i<T.m→T.A i s≤0):p.wb c (dK.vec plus minus T.pt) (dK.vec plus minus (T.dir s)):=by
 have hu:=L.uw
 have qU:s<T.n:=by rw[h.n];omega
 have ha:∀j,u≤j→j<w→T.dir s j=0:=fun j h1 h2=>aan (by omega) fun i hi e=>hC.row i hi hi (by omega) s hs
 refine⟨QW L hW hF h hC,L.meets ((h.mG _).1 (vX hW s (by omega))) ?_ (fun j _=>QQ hA j) ha,?_⟩
 ·have:=aam hW qU
  rw[h.n]at this
  rw[this];grind
 ·rw[←QU L hc ha,←h.cost ho (vX hW s (by omega)),AQ hW s (by omega)]
  exact iO
end
end ao
end Lp
namespace Lp
structure Prg where
 free:List Bool
 rows:List (List Rat×Int×Rat)
def fn(l:List Rat)(j:Nat):Rat:=l.getD j 0
theorem gq{l:List Rat}{j:Nat}{q:Rat}(h:l[j]? = some q):fn l j=q:=by simp[fn,List.getD,h]
theorem QY{l:List Rat}{j:Nat}(h:l.length≤j):fn l j=0:=by simp[fn,List.getD,List.getElem?_eq_none h]
def Prg.row(p:Prg)(i:Nat):List Rat×Int×Rat:=p.rows.getD i ([],0,0)
theorem Prg.gu{p:Prg}{i:Nat}{r:List Rat×Int×Rat}(h:p.rows[i]? = some r):p.row i=r:=by simp[Prg.row,List.getD,h]
def Prg.lp(p:Prg):LP:=⟨p.free.length,p.rows.length,fun j=>p.free.getD j false,fun i j=>fn (p.row i).1 j,fun i=>(p.row i).2.1,fun i=>(p.row i).2.2⟩
theorem Prg.yq{p:Prg}{j:Nat}{b:Bool}(h:p.free[j]? = some b):p.lp.free j=b:=by simp[Prg.lp,List.getD,h]
def Lq(n:Nat)(r:List Rat×Int×Rat):Prop:=r.1.length=n∧(r.2.1=1∨r.2.1=2∨r.2.1=3)
structure Prg.Ok(p:Prg):Prop where
 dR:p.free.length≤400
 rows:p.rows.length≤800
 row:∀(i:Nat)(r:List Rat×Int×Rat),p.rows[i]? = some r→Lq p.free.length r
theorem Prg.Ok.valid{p:Prg}(h:p.Ok):p.lp.Valid:=fun i hi=>by
 have fR:i<p.rows.length:=hi
 have:=(h.row i _ (List.getElem?_eq_getElem fR)).2
 show (p.row i).2.1=1∨(p.row i).2.1=2∨(p.row i).2.1=3
 rwa [Prg.gu (List.getElem?_eq_getElem fR)]
structure qW(p:Prg)(x:List Rat):Prop where
 ok:p.Ok
 len:x.length=p.free.length
 meets:p.lp.dJ 1 (fn x)
structure sB(p:Prg)(c x y:List Rat):Prop where
 dB:qW p x
 wc:c.length=p.free.length
 sC:y.length=p.rows.length
 cert:p.lp.vZ (fn c) (fn x) (fn y)
structure AV(p:Prg)(y:List Rat):Prop where
 ok:p.Ok
 sC:y.length=p.rows.length
 cert:p.lp.wa (fn y)
structure AW(p:Prg)(c x r:List Rat):Prop where
 dB:qW p x
 wc:c.length=p.free.length
 lD:r.length=p.free.length
 cert:p.lp.wb (fn c) (fn x) (fn r)
structure pc where
 status:Int
 value:Rat
 x:List Rat
 iw:List Rat
 ray:List Rat
def qe(p:Prg)(c:List Rat)(s:pc):Prop:=
 (s.status=1∧s.ray = []∧sB p c s.x s.iw∧s.value=aX p.free.length (fn c) (fn s.x))∨
 (s.status=2∧s.value=0∧s.x = []∧s.ray = []∧c.length=p.free.length∧AV p s.iw)∨
 (s.status=3∧s.value=0∧s.iw = []∧AW p c s.x s.ray)
theorem qe.HG{p:Prg}{c:List Rat}{s:pc}(h:qe p c s):(s.status=1∧p.lp.yp (fn c) s.value)∨(s.status=2∧p.lp.DC∧s.value=0)∨(s.status=3∧p.lp.AU (fn c)∧s.value=0):=by
 rcases h with ⟨h1,_,h2,h3⟩ | ⟨h1,h2,_,_,_,h3⟩ | ⟨h1,h2,_,h3⟩
 ·exact .inl ⟨h1,by rw[h3];exact h2.cert.Lj h2.dB.ok.valid⟩
 ·exact .inr (.inl ⟨h1,h3.cert.isInf h3.ok.valid,h2⟩)
 ·exact .inr (.inr ⟨h1,h3.cert.QI,h2⟩)
theorem qe.HH{p:Prg}{c:List Rat}{S:pc}(h:qe p c S)(e:S.status=1):S.ray = []∧sB p c S.x S.iw∧S.value=aX p.free.length (fn c) (fn S.x):=by
 rcases h with ⟨_,h⟩ | ⟨h1,_⟩ | ⟨h1,_⟩
 ·exact h
 ·omega
 ·omega
theorem qe.QZ{p:Prg}{c:List Rat}{S:pc}(h:qe p c S)(e:S.status=2):S.value=0∧S.x = []∧S.ray = []∧c.length=p.free.length∧AV p S.iw:=by
 rcases h with ⟨h1,_⟩ | ⟨_,h⟩ | ⟨h1,_⟩
 ·omega
 ·exact h
 ·omega
theorem qe.at3{p:Prg}{c:List Rat}{S:pc}(h:qe p c S)(e:S.status=3):S.value=0∧S.iw = []∧AW p c S.x S.ray:=by
 rcases h with ⟨h1,_⟩ | ⟨h1,_⟩ | ⟨_,h⟩
 ·omega
 ·omega
 ·exact h
end Lp
