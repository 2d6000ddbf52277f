/- Part 4 of the proof: Num1, Lp, Sx, Sy, Prg, Num2. -/
import Derived.Test.YtgjimcieaecdkaaGreatA03
set_option linter.unusedVariables false
namespace Go.au
open Go.Proofs Num
theorem l6:Tryz.prog.underlying 59=some (.pointer (Tryz.prog.pointee 59)):=by
 unfold Program.pointee;rw[Tryz.underlying59]
theorem nO{H:Heap}{g:Nat}{xs:List Value}{e i:Nat}{v:Value}(h:xs[i]? = some v):cell (ins H g (whole xs e)) ((⟨g,0,none⟩:Addr).add i)=some v:=by
 simp[cell,iJ,ins,whole,h]
theorem Cq{H:Heap}{g:Nat}{x:Value}{xs:List Value}{e:Nat}:cell (ins H g (whole (x::xs) e)) ⟨g,0,none⟩=some x:=by
 simp[cell,ins,whole]
theorem Cr{H:Heap}{ad:Addr}{a b c:Value}(h0:cell H ad=some a)(h1:cell H (ad.add 1)=some b)(h2:cell H (ad.add 2)=some c):∀(i:Nat)(v:Value),[a,b,c][i]? = some v→cell H (ad.add i)=some v:=by
 intro i v hv
 match i with
 | 0=>simp only[List.getElem?_cons_zero,Option.some.injEq]at hv;subst hv;simpa [Addr.add]using h0
 | 1=>simp only[List.getElem?_cons_succ,List.getElem?_cons_zero,Option.some.injEq]at hv;subst hv;exact h1
 | 2=>simp only[List.getElem?_cons_succ,List.getElem?_cons_zero,Option.some.injEq]at hv;subst hv;exact h2
 | n+3=>simp at hv
theorem tH{a b:Int}(h1: -2147483647≤a)(h2:a≤2147483647)(h3: -2147483647≤b)(h4:b≤2147483647): -4611686014132420609≤a*b∧a*b≤4611686014132420609:=by
 have h5:(a*b).natAbs≤2147483647*2147483647:=by rw[Int.natAbs_mul];exact Nat.mul_le_mul (by omega) (by omega)
 omega
theorem oX(p:Rat):(p.num:Rat)/((p.den:Int):Rat)=p:=by
 have:=Rat.mkRat_self p
 rwa [Rat.mkRat_eq_div]at this
theorem vU(p:Rat):((p.den:Int):Rat)≠0:=fun e=>p.den_nz (by exact_mod_cast e)
theorem den_pos(p:Rat):0<p.den:=Nat.pos_of_ne_zero p.den_nz
theorem lowest{n d:Int}(hd:0<d):(((n:Rat)/(d:Rat)).num=n.tdiv (Nat.gcd n.natAbs d.natAbs:Nat))∧((n:Rat)/(d:Rat)).den=d.natAbs/Nat.gcd n.natAbs d.natAbs:=by
 have h0:decide (d<0)=false:=decide_eq_false (by omega)
 have jr:0<d.natAbs:=by omega
 have e:=Kn n d
 rw[h0]at e
 rw[←e,tl jr,Ft jr]
 refine⟨?_,rfl⟩
 have hg:(Nat.gcd n.natAbs d.natAbs)∣n.natAbs:=Nat.gcd_dvd_left _ _
 by_cases hn:n<0
 ·rw[show (decide (n<0) != false)=true by simp[hn]]
  have e2:n = -(n.natAbs:Int):=by omega
  conv=>rhs;rw[e2,Int.neg_tdiv]
  simp[sg,Int.tdiv_eq_ediv_of_nonneg]
 ·rw[show (decide (n<0) != false)=false by simp[hn]]
  have e2:n=(n.natAbs:Int):=by omega
  conv=>rhs;rw[e2]
  simp[sg,Int.tdiv_eq_ediv_of_nonneg]
theorem Te{n:Int}{g:Nat}(h1: -9223372036854775807≤n)(h2:n≤9223372036854775807): -9223372036854775807≤n.tdiv g∧n.tdiv g≤9223372036854775807:=by
 have:(n.tdiv g).natAbs≤n.natAbs:=by
  rw[Int.natAbs_tdiv];exact Nat.div_le_self _ _
 omega
abbrev N3(n d:Int)(b:Option Addr):Value:= .agg #[.int .i64 n,.int .i64 d,.pointer b]
theorem ll(H:Heap){n:Int}(h1: -9223372036854775807≤n)(h2:n≤9223372036854775807):aT H [.int .i64 n,.int .i64 1,.pointer none] (n:Rat):=
 ⟨_,_,_,rfl,.inl ⟨rfl,by simp,by simp,h1,h2,by decide⟩⟩
theorem ln{H:Heap}{n:Int}:
 Fn Tryz.prog 49 #[.int .i64 n] H (mU H (N3 n 1 none)):=by
 refine aU (args:=[_]) Tryz.func49 rfl rfl Tryz.ntmps49 rfl rfl fun w0=> ?_;refine ah [0] rfl ?_;refine ae (bG cN rfl (ab [0,2] ?_));refine ae (aa 1 rfl (eC ag rfl cN rfl rfl ?_));obtain⟨ti,aj,ak⟩:=a9;refine aO (.inl ⟨rfl,rfl⟩) rfl rfl rfl aj ak rfl rfl rfl (ab [2] ?_);obtain⟨bU,aK,aL⟩:=a9;refine ar ⟨.inr rfl,_,.agg rfl Tryz.underlying61 aK aL (.nil),?_⟩;exact⟨rfl,rfl⟩
theorem KO{H:Heap}{u:Value}{l:List Nat}(hu:fI H u l)(hl:Lt l)(h2:l.length≤2):
 Fn Tryz.prog 96 #[u] H (mU H (.int .i64 (val l:Nat))):=by
 obtain⟨A,c,rfl,hc,hr⟩:=hu;refine aU (args:=[_]) Tryz.func96 rfl rfl Tryz.ntmps96 rfl rfl fun w0=> ?_;refine ah [0] rfl ?_;refine ae (aa 1 rfl (ab [0] ?_));refine ae (aa 1 rfl (ab [0,3] ?_));refine ao (ae (aa 2 rfl (cY rfl rfl ⟨by omega,by omega⟩ (aa 1 rfl (ab [0,3,4] ?_)))));refine aD (gm (fun(k:Nat)=>k) (fun(k:Nat)=>put (put (put (emp) 0 (.val (.slice A l.length c))) 3 (.val (.int .i64 (val (l.drop k):Nat)))) 4 (.val (.int .i64 ((k:Int)-1)))) (fun(k:Nat) H'=>H'=H∧k≤l.length) l.length (⟨rfl,Nat.le_refl _⟩) (by simp only[List.drop_length];repeat (first | exact iG _ | refine dB rfl ?_ | refine dB (jc (by first | omega | (simp[val];done))) ?_)) ?_);rintro k H1 ⟨rfl,hk⟩;refine ao (ae (aa 2 rfl (ab [0,3,4,9] ?_)));refine az rfl (fun hb=> ?_) (fun hb=> ?_)
 ·
  have hb:0<k:=by simp at hb;omega
  obtain⟨x,hx⟩:∃x,l[k-1]? = some x:=⟨_,List.getElem?_eq_getElem (by omega)⟩;have Tf:=hl.get hx
  have je:val (l.drop (k-1))=x+B*val (l.drop k):=by
   obtain⟨gV,e⟩:=List.getElem?_eq_some_iff.1 hx;rw[List.drop_eq_getElem_cons gV,e,fV,show k-1+1=k by omega]
  have Tg:=oL (hl.drop k);have Th:B^(l.drop k).length≤B^1:=Nat.pow_le_pow_right jv (by rw[List.length_drop];omega)
  have aal:val (l.drop k)<1000000000:=by
   have:=Nat.lt_of_lt_of_le Tg Th
   rwa [Nat.pow_one,bt]at this
  rw[bt]at Tf je;refine aw (ah [0,3,4] rfl ?_);refine ao (aD (aB rfl (aa 1 rfl (gB rfl rfl ⟨by omega,by omega⟩ (aa 2 rfl (a5 ag rfl rfl rfl rfl rfl (hr) (by rw[show ((k:Int)-1).toNat=k-1 by omega];exact cA hx) (by omega) (by omega) fun _=> ?_))))));refine ct ag rfl rfl rfl ⟨by omega,by omega⟩ (aJ rfl rfl ⟨by omega,by omega⟩ (aa 1 rfl (ay (ah [0,3,4] rfl ?_))));refine aB rfl (aa 1 rfl (cY rfl rfl ⟨by omega,by omega⟩ (aa 1 rfl (ay ?_))));exact⟨k-1,by omega,(by rw[je];repeat (first | exact iG _ | refine dB rfl ?_ | refine dB (jc (by omega)) ?_)),rfl,by omega⟩
 ·
  have hb:k=0:=by simp at hb;omega
  subst hb;refine bA (ah [3] rfl ?_);refine ae (aa 2 rfl (ab [2] ?_));refine ar ⟨.inr rfl,_,.tmp rfl (.nil),?_⟩;exact⟨rfl,rfl⟩
theorem rA{H:Heap}{v:Value}{q:Rat}(hv:du H v q):
 Fn Tryz.prog 66 #[v] H (mV H q):=by
 obtain⟨u,w,rfl,hu,hw⟩:=id hv
 have jB:=hv
 unfold du at jB
 obtain⟨f,hf⟩:∃f,f=decide (q.num<0):=⟨_,rfl⟩
 rw[←hf]at hv
 rw[←hf]
 obtain⟨A,c,rfl,hc,hr⟩:=id hu
 obtain⟨A',c',rfl,gA,cF⟩:=id hw;refine aU (args:=[_]) Tryz.func66 rfl rfl Tryz.ntmps66 rfl rfl fun w0=> ?_;refine ah [0] rfl ?_;refine ae (JB rfl rfl ?_);intro g hg;have hle:=Heap.bh (whole [.bool f,.slice A (af q.num.natAbs).length c,.slice A' (af q.den).length c'] 29) hg;refine bG cN rfl (ab [1,2] ?_);refine ao ?_
 by_cases h2:2<(af q.num.natAbs).length
 ·
  skip
  refine ae (aX ag rfl rfl rfl (aP ag rfl rfl rfl (nO rfl) (aa 1 rfl (ax true rfl rfl (jU (by omega)) (aa 6 rfl (ab [1,2,13] ?_))))));refine cI rfl (ae (eC ag rfl cN rfl rfl ?_));obtain⟨ti,aj,ak⟩:=a9;refine aO (.inl ⟨rfl,rfl⟩) rfl rfl rfl aj ak rfl rfl rfl (ab [2] ?_);obtain⟨bU,aK,aL⟩:=a9;refine ar ⟨.inr rfl,_,.agg rfl Tryz.underlying61 aK aL (.nil),?_⟩;exact⟨hle,_,rfl,0,0,some ⟨g,0,none⟩,rfl,.inr ⟨_,f,_,_,rfl,hv.le hle,Cq,nO rfl,nO rfl⟩⟩
 ·
  skip
  by_cases h3:2<(af q.den).length
  ·
   skip
   refine ae (aX ag rfl rfl rfl (aP ag rfl rfl rfl (nO rfl) (aa 1 rfl (ax false rfl rfl (gD (by omega)) (aa 1 rfl (aX ag rfl rfl rfl (aP ag rfl rfl rfl (nO rfl) (aa 1 rfl (ax true rfl rfl (jU (by omega)) (aa 1 rfl (ab [1,2,13] ?_)))))))))));refine cI rfl (ae (eC ag rfl cN rfl rfl ?_));obtain⟨ti,aj,ak⟩:=a9;refine aO (.inl ⟨rfl,rfl⟩) rfl rfl rfl aj ak rfl rfl rfl (ab [2] ?_);obtain⟨bU,aK,aL⟩:=a9;refine ar ⟨.inr rfl,_,.agg rfl Tryz.underlying61 aK aL (.nil),?_⟩;exact⟨hle,_,rfl,0,0,some ⟨g,0,none⟩,rfl,.inr ⟨_,f,_,_,rfl,hv.le hle,Cq,nO rfl,nO rfl⟩⟩
  skip
  refine ae (aX ag rfl rfl rfl (aP ag rfl rfl rfl (nO rfl) (aa 1 rfl (ax false rfl rfl (gD (by omega)) (aa 1 rfl (aX ag rfl rfl rfl (aP ag rfl rfl rfl (nO rfl) (aa 1 rfl (ax false rfl rfl (gD (by omega)) (aa 1 rfl (ab [1,2,13] ?_)))))))))));refine cP rfl (aw (ah [1,2] rfl ?_));have Cs:=fW.1 (show (af q.num.natAbs).length≤2 by omega);have nz:=fW.1 (show (af q.den).length≤2 by omega);rw[bt]at Cs nz;refine bT .bN [0,1,3,4,2,5,6,7,8] follows (by kernel_rfl) ?_;refine aX ag rfl rfl rfl (aP ag rfl rfl rfl (nO rfl) (aX ag rfl rfl rfl (aP ag rfl rfl rfl (nO rfl) (aI rfl rfl (KO (hu.le hle) (dO _).lt (by omega)) (fun _ _ h=>h.le) ?_))));rintro v1 H1 ⟨e1,rfl⟩;rw[e1,bX];refine aI rfl rfl (KO (hw.le hle) (dO _).lt (by omega)) (fun _ _ h=>h.le) ?_;rintro v1 H1 ⟨e1,rfl⟩;rw[e1,bX];refine eC ag rfl cN rfl rfl (bG cN rfl ?_);obtain⟨ti,aj,ak⟩:=a9;refine aO (.inl ⟨rfl,rfl⟩) rfl rfl rfl aj ak rfl rfl rfl (ab [1,2,3] ?_);refine ao (ae (aX ag rfl rfl rfl ?_))
  refine aP ag rfl rfl rfl (Cq) (ab [2,3,23] ?_);refine az rfl (fun hb=> ?_) (fun hb=> ?_)
  ·
   have hq:q.num<0:=by rw[hf]at hb;simpa using hb
   refine aB rfl (aa 2 rfl (vo rfl ⟨by omega,by omega⟩ (vr 1 ?_)));obtain⟨ti,aj,ak⟩:=nI;refine aO (.inr rfl) rfl rfl rfl aj ak rfl rfl rfl (ay (ah [2,3] rfl ?_));refine ae (vr 1 ?_);obtain⟨ti,aj,ak⟩:=a9;refine aO (.inl ⟨rfl,rfl⟩) rfl rfl rfl aj ak rfl rfl rfl (ab [2] ?_);obtain⟨bU,aK,aL⟩:=a9;refine ar ⟨.inr rfl,_,.agg rfl Tryz.underlying61 aK aL (.nil),?_⟩;refine⟨hle,_,rfl,-(q.num.natAbs:Int),(q.den:Int),none,rfl,.inl ⟨rfl,by omega,rfl,by omega,by omega,by omega⟩⟩
  have hq:¬q.num<0:=by rw[hf]at hb;simpa using hb
  refine aw (ah [2,3] rfl ?_);refine ae (vr 1 ?_);obtain⟨ti,aj,ak⟩:=a9;refine aO (.inl ⟨rfl,rfl⟩) rfl rfl rfl aj ak rfl rfl rfl (ab [2] ?_);obtain⟨bU,aK,aL⟩:=a9;refine ar ⟨.inr rfl,_,.agg rfl Tryz.underlying61 aK aL (.nil),?_⟩;refine⟨hle,_,rfl,(q.num.natAbs:Int),(q.den:Int),none,rfl,.inl ⟨rfl,by omega,rfl,by omega,by omega,by omega⟩⟩
theorem p9{H:Heap}{v:Value}{q:Rat}{N:Nat}(hv:cj H v q N)(hN:(N:Int)≤1099511627776):
 Fn Tryz.prog 56 #[v] H (mV H q):=by
 obtain⟨bf,bu,bw,lY,lZ,rfl,_⟩:=id hv;refine aU (args:=[_]) Tryz.func56 rfl rfl Tryz.ntmps56 rfl rfl fun w0=> ?_;refine ah [0] rfl ?_;refine ae (bR rfl rfl (bG cN rfl (ab [1,2] ?_)));refine ae (aa 1 rfl (aq rfl rfl (KB hv hN) ?_));rintro w1 G1 ⟨dy,bJ⟩;obtain⟨u1,x1,rfl,cW,di⟩:=id bJ;obtain⟨jg,jh,rfl,ji,jk⟩:=id cW;obtain⟨nP,nQ,rfl,nR,nS⟩:=id di;refine aq rfl rfl (rA bJ) ?_;rintro w2 G2 ⟨cG,yl,rfl,bB⟩;obtain⟨n2,d2,b2,rfl,_⟩:=id bB;obtain⟨ti,aj,ak⟩:=a9;refine aO (.inl ⟨rfl,rfl⟩) rfl rfl rfl aj ak rfl rfl rfl (ab [2] ?_);obtain⟨bU,aK,aL⟩:=a9;refine ar ⟨.inr rfl,_,.agg rfl Tryz.underlying61 aK aL (.nil),?_⟩;exact⟨dy.trans cG,_,rfl,bB⟩
theorem mW{H:Heap}{vs:List Value}{q:Rat}(hv:aT H vs q):
 Fn Tryz.prog 95 #[.agg vs.toArray] H (iL H q):=by
 obtain⟨n,d,b,rfl,gK⟩:=id hv
 have bZ:=fun ad f u w (h:du H (.agg #[.bool f,u,w]) q)(_:b=some ad)=>h.raw;refine aU (args:=[_]) Tryz.func95 rfl rfl Tryz.ntmps95 rfl rfl fun w0=> ?_;refine ah [0] rfl ?_;refine ae (bR rfl rfl (bG eD rfl (ab [1,2] ?_)));refine ao ?_
 rcases gK with ⟨rfl,hn,hd,h1,h2,h3⟩ | ⟨ad,f,u,w,rfl,lq,nT,jC,lX⟩
 ·
  skip
  refine ae (aa 2 rfl (qY l6 rfl rfl (ab [1,2,5] ?_)));refine cP rfl (aw (ah [1,2] rfl ?_));refine ae (aa 4 rfl (aq rfl rfl (KA (by omega) (by omega) (by omega) (by omega)) ?_));rintro w1 G1 ⟨dy,bJ⟩;obtain⟨u1,x1,rfl,cW,di⟩:=id bJ;obtain⟨jg,jh,rfl,ji,jk⟩:=id cW;obtain⟨nP,nQ,rfl,nR,nS⟩:=id di;rw[hn,hd,oX]at bJ;obtain⟨ti,aj,ak⟩:=bP;refine aO (.inl ⟨rfl,rfl⟩) rfl rfl rfl aj ak rfl rfl rfl (ab [2] ?_);obtain⟨bU,aK,aL⟩:=bP;refine ar ⟨.inr rfl,_,.agg rfl Tryz.underlying29 aK aL (.nil),?_⟩
  skip
  rw[hn,hd,oX];exact⟨dy,bJ⟩
 ·
  obtain⟨u1,w1,tI,cW,ee⟩:=id lq
  obtain⟨rfl,rfl,rfl⟩:f=decide (q.num<0)∧u=u1∧w=w1:=by simpa using tI
  obtain⟨jg,jh,rfl,ji,jk⟩:=id cW;obtain⟨vM,vN,rfl,vO,vP⟩:=id ee;refine ae (aa 2 rfl (qY l6 rfl rfl (ab [1,2,5] ?_)));refine cI rfl (ae (aa 3 rfl (vp (vs:=[.bool _,_,_]) ag rfl rfl rfl (Cr nT jC lX) ?_)));obtain⟨ti,aj,ak⟩:=bP;refine aO (.inl ⟨rfl,rfl⟩) rfl rfl rfl aj ak rfl rfl rfl (ab [2] ?_);obtain⟨bU,aK,aL⟩:=bP;refine ar ⟨.inr rfl,_,.agg rfl Tryz.underlying29 aK aL (.nil),?_⟩;exact⟨.refl _,lq⟩
theorem KP{H:Heap}{vs:List Value}{q:Rat}(hv:aT H vs q)(hN:(aC q:Int)≤1099511627776):
 Fn Tryz.prog 36 #[.agg vs.toArray] H (iL H q):=by
 obtain⟨n,d,b,rfl,gK⟩:=id hv
 have bZ:=fun ad f u w (h:du H (.agg #[.bool f,u,w]) q)(_:b=some ad)=>h.raw;refine aU (args:=[_]) Tryz.func36 rfl rfl Tryz.ntmps36 rfl rfl fun w0=> ?_;refine ah [0] rfl ?_;refine ae (bR rfl rfl (bG eD rfl (ab [1,2] ?_)));refine ao ?_
 rcases gK with ⟨rfl,hn,hd,h1,h2,h3⟩ | ⟨ad,f,u,w,rfl,lq,nT,jC,lX⟩
 ·
  skip
  refine ae (aa 2 rfl (qY l6 rfl rfl (ab [1,2,5] ?_)));refine cP rfl (aw (ah [1,2] rfl ?_));refine ae (aa 4 rfl (aq rfl rfl (KA (by omega) (by omega) (by omega) (by omega)) ?_));rintro w1 G1 ⟨dy,bJ⟩;obtain⟨u1,x1,rfl,cW,di⟩:=id bJ;obtain⟨jg,jh,rfl,ji,jk⟩:=id cW;obtain⟨nP,nQ,rfl,nR,nS⟩:=id di;rw[hn,hd,oX]at bJ;obtain⟨ti,aj,ak⟩:=bP;refine aO (.inl ⟨rfl,rfl⟩) rfl rfl rfl aj ak rfl rfl rfl (ab [2] ?_);obtain⟨bU,aK,aL⟩:=bP;refine ar ⟨.inr rfl,_,.agg rfl Tryz.underlying29 aK aL (.nil),?_⟩
  skip
  rw[hn,hd,oX];exact⟨dy,bJ⟩
 ·
  obtain⟨u1,w1,tI,cW,ee⟩:=id lq
  obtain⟨rfl,rfl,rfl⟩:f=decide (q.num<0)∧u=u1∧w=w1:=by simpa using tI
  obtain⟨jg,jh,rfl,ji,jk⟩:=id cW;obtain⟨vM,vN,rfl,vO,vP⟩:=id ee;refine ae (aa 2 rfl (qY l6 rfl rfl (ab [1,2,5] ?_)));refine cI rfl (ae (aa 3 rfl (vp (vs:=[.bool _,_,_]) ag rfl rfl rfl (Cr nT jC lX) (aq rfl rfl (KB lq.raw hN) ?_))));rintro w1 G1 ⟨dy,bJ⟩;obtain⟨u1,x1,rfl,cW,di⟩:=id bJ;obtain⟨jg,jh,rfl,ji,jk⟩:=id cW;obtain⟨nP,nQ,rfl,nR,nS⟩:=id di;obtain⟨ti,aj,ak⟩:=bP;refine aO (.inl ⟨rfl,rfl⟩) rfl rfl rfl aj ak rfl rfl rfl (ab [2] ?_);obtain⟨bU,aK,aL⟩:=bP;refine ar ⟨.inr rfl,_,.agg rfl Tryz.underlying29 aK aL (.nil),?_⟩;exact⟨dy,bJ⟩
theorem Tj{H:Heap}{n d:Int}{b:Option Addr}:
 Fn Tryz.prog 92 #[N3 n d b] H (fun v H'=>H'=H∧∃t,v = .bool t∧(t=true↔b=none∧-2147483647≤n∧n≤2147483647∧d≤2147483647)):=by
 refine aU (args:=[_]) Tryz.func92 rfl rfl Tryz.ntmps92 rfl rfl fun w0=> ?_;refine ah [0] rfl ?_;refine ae (bR rfl rfl (aa 1 rfl (ab [1] ?_)))
 rcases b with _ | ad
 rotate_left
 ·
  skip
  refine ae (aa 2 rfl (xE l6 rfl rfl (aa 16 rfl (ab [2] ?_))));refine ar ⟨.inr rfl,_,.tmp rfl (.nil),?_⟩;exact⟨rfl,_,rfl,by constructor <;> intro h <;> first | (cases h;done) | exact⟨rfl,h1,h2,h3⟩ | (obtain⟨h4,h5,h6,h7⟩:=h;first | (cases h4;done) | omega) | rfl⟩
 ·
  skip
  by_cases h1: -2147483647≤n
  ·
   skip
   by_cases h2:n≤2147483647
   ·
    skip
    by_cases h3:d≤2147483647
    ·
     skip
     refine ae (aa 2 rfl (xE l6 rfl rfl (aa 3 rfl (ax true rfl rfl (oN h1) (aa 4 rfl (ax true rfl rfl (oN h2) (aa 4 rfl (ax true rfl rfl (oN h3) (aa 2 rfl (ab [2] ?_))))))))));refine ar ⟨.inr rfl,_,.tmp rfl (.nil),?_⟩;exact⟨rfl,_,rfl,by constructor <;> intro h <;> first | (cases h;done) | exact⟨rfl,h1,h2,h3⟩ | (obtain⟨h4,h5,h6,h7⟩:=h;first | (cases h4;done) | omega) | rfl⟩
    skip
    refine ae (aa 2 rfl (xE l6 rfl rfl (aa 3 rfl (ax true rfl rfl (oN h1) (aa 4 rfl (ax true rfl rfl (oN h2) (aa 4 rfl (ax false rfl rfl (vA (by omega)) (aa 2 rfl (ab [2] ?_))))))))));refine ar ⟨.inr rfl,_,.tmp rfl (.nil),?_⟩;exact⟨rfl,_,rfl,by constructor <;> intro h <;> first | (cases h;done) | exact⟨rfl,h1,h2,h3⟩ | (obtain⟨h4,h5,h6,h7⟩:=h;first | (cases h4;done) | omega) | rfl⟩
   skip
   refine ae (aa 2 rfl (xE l6 rfl rfl (aa 3 rfl (ax true rfl rfl (oN h1) (aa 4 rfl (ax false rfl rfl (vA (by omega)) (aa 7 rfl (ab [2] ?_))))))));refine ar ⟨.inr rfl,_,.tmp rfl (.nil),?_⟩;exact⟨rfl,_,rfl,by constructor <;> intro h <;> first | (cases h;done) | exact⟨rfl,h1,h2,h3⟩ | (obtain⟨h4,h5,h6,h7⟩:=h;first | (cases h4;done) | omega) | rfl⟩
  skip
  refine ae (aa 2 rfl (xE l6 rfl rfl (aa 3 rfl (ax false rfl rfl (vA (by omega)) (aa 12 rfl (ab [2] ?_))))));refine ar ⟨.inr rfl,_,.tmp rfl (.nil),?_⟩;exact⟨rfl,_,rfl,by constructor <;> intro h <;> first | (cases h;done) | exact⟨rfl,h1,h2,h3⟩ | (obtain⟨h4,h5,h6,h7⟩:=h;first | (cases h4;done) | omega) | rfl⟩
def qa(n d:Int)(b:Option Addr):Bool:=b.isNone&&(decide (-2147483647≤n)&&(decide (n≤2147483647)&&decide (d≤2147483647)))
theorem tJ{n d:Int}{b:Option Addr}:qa n d b=true↔b=none∧-2147483647≤n∧n≤2147483647∧d≤2147483647:=by
 simp[qa]
theorem kH{H:Heap}{n d:Int}{b:Option Addr}:Fn Tryz.prog 92 #[N3 n d b] H (mU H (.bool (qa n d b))):=
 Tj.mono fun v H' ⟨h1,t,h2,h3⟩=>⟨h1,by rw[h2];congr 1;rw[Bool.eq_iff_iff,h3,tJ]⟩
theorem Ct{H:Heap}{n d:Int}(h1: -9223372036854775807≤n)(h2:n≤9223372036854775807)(h3:0<d)(h4:d≤9223372036854775807):
 Fn Tryz.prog 93 #[.int .i64 n,.int .i64 d] H (mV H ((n:Rat)/(d:Rat))):=by
 have rp:=lowest (n:=n) h3;refine aU (args:=[_,_]) Tryz.func93 rfl rfl Tryz.ntmps93 rfl rfl fun w0=> ?_;refine ah [0,1] rfl ?_;refine ae (bG cN rfl (ab [0,1,4] ?_));refine ae (aa 2 rfl (vo rfl ⟨by omega,by omega⟩ (Rc rfl rfl ?_)));rw[show (if -n>n then -n else n)=((n.natAbs:Nat):Int) by split <;> omega];refine aa 3 rfl (ab [0,1,4,5,6] ?_);refine ao (aD (jb (fun(a:Nat)(b:Nat)=>b) (fun(a:Nat)(b:Nat)=>put (put (put (put (put (emp) 0 (.val (.int .i64 n))) 1 (.val (.int .i64 d))) 4 (.box [.int .i64 0,.int .i64 0,.pointer none])) 5 (.val (.int .i64 (a:Int)))) 6 (.val (.int .i64 (b:Int)))) (fun(a:Nat)(b:Nat) H'=>H'=H∧Nat.gcd a b=Nat.gcd n.natAbs d.natAbs∧a≤9223372036854775807∧b≤9223372036854775807) n.natAbs d.natAbs (⟨rfl,rfl,by omega,by omega⟩) av ?_));rintro a b H1 ⟨rfl,hg,ha,tK⟩;refine ao (ae (aa 2 rfl (ab [0,1,4,5,6,13] ?_)));refine az rfl (fun hb=> ?_) (fun hb=> ?_)
 ·
  have hb:0<b:=by simp at hb;omega
  refine aw (ah [0,1,4,5,6] rfl ?_);refine aD (fk .bN [0,1,2,3,4,5] follows (by kernel_rfl) ?_);refine aa 3 rfl (jR rfl rfl (by omega) (by omega) (aa 2 rfl (ay ?_)));exact⟨b,a%b,Nat.mod_lt a hb,av,rfl,by rw[←hg,Nat.gcd_comm b,←Nat.gcd_rec,Nat.gcd_comm],tK,by have:=Nat.mod_lt a hb;omega⟩
 ·
  have hb:b=0:=by simp at hb;omega
  subst hb;rw[Nat.gcd_zero_right]at hg
  have ha0:0<a:=by rw[hg];exact Nat.gcd_pos_of_pos_right _ (by omega)
  have ie:=Te (g:=a) h1 h2;have gW:(d/(a:Int))≤d∧0≤d/(a:Int):=⟨Int.ediv_le_self _ (by omega),Int.ediv_nonneg (by omega) (by omega)⟩;refine bA (ah [0,1,4,5] rfl ?_);refine bT .bN [0,1,2,3,4,5,6,7] follows (by kernel_rfl) ?_;refine aa 2 rfl (QC rfl rfl (by omega) ⟨by omega,by omega⟩ (aa 2 rfl (iY rfl rfl (by omega) (by omega) ⟨by omega,by omega⟩ (eC ag rfl cN rfl rfl ?_))));obtain⟨ti,aj,ak⟩:=a9;refine aO (.inl ⟨rfl,rfl⟩) rfl rfl rfl aj ak rfl rfl rfl (ab [4] ?_);obtain⟨bU,aK,aL⟩:=a9;refine ar ⟨.inr rfl,_,.agg rfl Tryz.underlying61 aK aL (.nil),?_⟩;rw[←hg]at rp;refine⟨.refl _,_,rfl,n.tdiv a,d/(a:Int),none,rfl,.inl ⟨rfl,rp.1.symm,?_,ie.1,ie.2,by omega⟩⟩;rw[rp.2]
  have e:d=(d.natAbs:Int):=by omega
  rw[e,Int.natAbs_natCast];rfl
theorem fq{H:Heap}{vs:List Value}{q:Rat}(hv:aT H vs q)(hN:(aC q:Int)≤1099511627776):
 Fn Tryz.prog 28 #[.agg vs.toArray] H (fun v H'=>Heap.le H H'∧v = .int .i64 (eE q)):=by
 obtain⟨n,d,b,rfl,gK⟩:=id hv
 have bZ:=fun ad f u w (h:du H (.agg #[.bool f,u,w]) q)(_:b=some ad)=>h.raw
 have hs:=KM q;refine aU (args:=[_]) Tryz.func28 rfl rfl Tryz.ntmps28 rfl rfl fun w0=> ?_;refine ah [0] rfl ?_;refine ae (bR rfl rfl (aa 1 rfl (ab [1] ?_)));refine ao (aD ?_)
 rcases gK with ⟨rfl,hn,hd,h1,h2,h3⟩ | ⟨ad,f,u,w,rfl,lq,nT,jC,lX⟩
 ·
  skip
  refine ae (aa 2 rfl (qY l6 rfl rfl (aa 1 rfl (ab [1,3] ?_))));refine cP rfl (ae (aa 4 rfl (ab [1,12] ?_)));refine az rfl (fun hb=> ?_) (fun hb=> ?_)
  ·
   have hb:n<0:=by simpa using hb
   rw[if_neg (by omega),decide_eq_true (by omega)]at hs;refine ae (aa 1 rfl (ab [2] ?_));refine ar ⟨.inr rfl,_,.tmp rfl (.nil),?_⟩;exact⟨.refl _,by rw[hs];rfl⟩
  ·
   have hb:0≤n:=by simpa using hb
   refine ae (aa 4 rfl (ab [16] ?_));refine az rfl (fun hb=> ?_) (fun hb=> ?_)
   ·
    have hb:0<n:=by simpa using hb
    rw[if_neg (by omega),decide_eq_false (by omega)]at hs;refine ae (aa 1 rfl (ab [2] ?_));refine ar ⟨.inr rfl,_,.tmp rfl (.nil),?_⟩;exact⟨.refl _,by rw[hs];rfl⟩
   have cD:n≤0:=by simpa using hb
   rw[if_pos (by omega)]at hs;refine aw (ah [] rfl ?_);refine ae (aa 1 rfl (ab [2] ?_));refine ar ⟨.inr rfl,_,.tmp rfl (.nil),?_⟩;exact⟨.refl _,by rw[hs];rfl⟩
 ·
  obtain⟨u1,w1,tI,cW,ee⟩:=id lq
  obtain⟨rfl,rfl,rfl⟩:f=decide (q.num<0)∧u=u1∧w=w1:=by simpa using tI
  obtain⟨jg,jh,rfl,ji,jk⟩:=id cW;obtain⟨vM,vN,rfl,vO,vP⟩:=id ee;refine ae (aa 2 rfl (qY l6 rfl rfl (aa 1 rfl (ab [1,3] ?_))));refine cI rfl (ae (aa 3 rfl (vp (vs:=[.bool _,_,_]) ag rfl rfl rfl (Cr nT jC lX) (aq rfl rfl (p7 lq.raw hN) ?_))));rintro v1 H1 ⟨bC,rfl⟩;refine aa 1 rfl (ab [2] ?_);refine ar ⟨.inr rfl,_,.tmp rfl (.nil),?_⟩;exact⟨bC,rfl⟩
theorem vV{H:Heap}{vs:List Value}{q:Rat}(hv:aT H vs q)(hN:(aC q:Int)≤1099511627776):
 Fn Tryz.prog 33 #[.agg vs.toArray] H (mV H (-q)):=by
 obtain⟨n,d,b,rfl,gK⟩:=id hv
 have bZ:=fun ad f u w (h:du H (.agg #[.bool f,u,w]) q)(_:b=some ad)=>h.raw;refine aU (args:=[_]) Tryz.func33 rfl rfl Tryz.ntmps33 rfl rfl fun w0=> ?_;refine ah [0] rfl ?_;refine ae (bR rfl rfl (bG cN rfl (ab [1,2] ?_)));refine ao ?_
 rcases gK with ⟨rfl,hn,hd,h1,h2,h3⟩ | ⟨ad,f,u,w,rfl,lq,nT,jC,lX⟩
 ·
  skip
  refine ae (aa 2 rfl (qY l6 rfl rfl (ab [1,2,5] ?_)));refine cP rfl (aw (ah [1,2] rfl ?_));refine ae (aa 2 rfl (vo rfl ⟨by omega,by omega⟩ (aa 2 rfl (eC ag rfl cN rfl rfl ?_))));obtain⟨ti,aj,ak⟩:=a9;refine aO (.inl ⟨rfl,rfl⟩) rfl rfl rfl aj ak rfl rfl rfl (ab [2] ?_);obtain⟨bU,aK,aL⟩:=a9;refine ar ⟨.inr rfl,_,.agg rfl Tryz.underlying61 aK aL (.nil),?_⟩;exact⟨.refl _,_,rfl,-n,d,none,rfl,.inl ⟨rfl,by rw[Rat.neg_num,hn],by rw[Rat.neg_den,hd],by omega,by omega,by omega⟩⟩
 ·
  obtain⟨u1,w1,tI,cW,ee⟩:=id lq
  obtain⟨rfl,rfl,rfl⟩:f=decide (q.num<0)∧u=u1∧w=w1:=by simpa using tI
  obtain⟨jg,jh,rfl,ji,jk⟩:=id cW;obtain⟨vM,vN,rfl,vO,vP⟩:=id ee;refine ae (aa 2 rfl (qY l6 rfl rfl (ab [1,2,5] ?_)));refine cI rfl (ae (aa 3 rfl (vp (vs:=[.bool _,_,_]) ag rfl rfl rfl (Cr nT jC lX) (aq rfl rfl (S8 lq.raw hN) ?_))));rintro w1 G1 ⟨dy,bJ⟩;obtain⟨u1,x1,rfl,cW,di⟩:=id bJ;obtain⟨jg,jh,rfl,ji,jk⟩:=id cW;obtain⟨nP,nQ,rfl,nR,nS⟩:=id di;refine aq rfl rfl (rA bJ) ?_;rintro w2 G2 ⟨cG,yl,rfl,bB⟩;obtain⟨n2,d2,b2,rfl,_⟩:=id bB;obtain⟨ti,aj,ak⟩:=a9;refine aO (.inl ⟨rfl,rfl⟩) rfl rfl rfl aj ak rfl rfl rfl (ab [2] ?_);obtain⟨bU,aK,aL⟩:=a9;refine ar ⟨.inr rfl,_,.agg rfl Tryz.underlying61 aK aL (.nil),?_⟩;exact⟨dy.trans cG,_,rfl,bB⟩
end Go.au
namespace Lp
def aN:Nat→(Nat→Rat)→Rat
 | 0,_=>0
 | n+1,f=>aN n f+f n
theorem eG(n:Nat)(f:Nat→Rat):aN (n+1) f=aN n f+f n:=rfl
theorem vW(f:Nat→Rat):aN 0 f=0:=rfl
theorem dY{n:Nat}{f g:Nat→Rat}(h:∀i,i<n→f i=g i):aN n f=aN n g:=by
 induction n with
 | zero=>rfl
 | succ n ih=>
  rw[eG,eG,ih (fun i hi=>h i (by omega)),h n (by omega)]
theorem FP(n:Nat)(f g:Nat→Rat):aN n (fun i=>f i+g i)=aN n f+aN n g:=by
 induction n with
 | zero=>simp only[aN];grind
 | succ n ih=>simp only[eG,ih];grind
theorem ym(n:Nat)(f g:Nat→Rat):aN n (fun i=>f i-g i)=aN n f-aN n g:=by
 induction n with
 | zero=>simp only[aN];grind
 | succ n ih=>simp only[eG,ih];grind
theorem qb(n:Nat)(k:Rat)(f:Nat→Rat):aN n (fun i=>k*f i)=k*aN n f:=by
 induction n with
 | zero=>simp[aN]
 | succ n ih=>simp only[eG,ih];grind
theorem oY(n:Nat)(k:Rat)(f:Nat→Rat):aN n (fun i=>f i*k)=aN n f*k:=by
 induction n with
 | zero=>simp[aN]
 | succ n ih=>simp only[eG,ih];grind
theorem Cu(n:Nat)(f:Nat→Rat):aN n (fun i=> - f i) = - aN n f:=by
 induction n with
 | zero=>simp only[aN];grind
 | succ n ih=>simp only[eG,ih];grind
theorem Cv(n:Nat):aN n (fun _=>0)=0:=by
 induction n with
 | zero=>rfl
 | succ n ih=>rw[eG,ih];grind
theorem kI{n:Nat}{f:Nat→Rat}(h:∀i,i<n→f i=0):aN n f=0:=by
 rw[dY h,Cv]
theorem nU{n k:Nat}(hk:k<n)(f:Nat→Rat)(h:∀i,i<n→i≠k→f i=0):aN n f=f k:=by
 induction n with
 | zero=>omega
 | succ n ih=>
  rw[eG]
  by_cases e:k=n
  ·subst e
   rw[kI (fun i hi=>h i (by omega) (by omega))];grind
  ·rw[ih (by omega) (fun i hi a4=>h i (by omega) a4),h n (by omega) (by omega)];grind
theorem Cw(m n:Nat)(f:Nat→Nat→Rat):
  aN m (fun i=>aN n (fun j=>f i j))=aN n (fun j=>aN m (fun i=>f i j)):=by
 induction m with
 | zero=>simp[aN,Cv]
 | succ m ih=>simp only[eG,ih,FP]
theorem yn{n:Nat}{f:Nat→Rat}(h:∀i,i<n→0≤f i):0≤aN n f:=by
 induction n with
 | zero=>exact Rat.le_refl
 | succ n ih=>
  rw[eG]
  have h1:=ih (fun i hi=>h i (by omega))
  have h2:=h n (by omega)
  grind
theorem Cx{n:Nat}{f g:Nat→Rat}(h:∀i,i<n→f i≤g i):aN n f≤aN n g:=by
 induction n with
 | zero=>exact Rat.le_refl
 | succ n ih=>
  rw[eG,eG]
  have h1:=ih (fun i hi=>h i (by omega))
  have h2:=h n (by omega)
  grind
theorem Tk{n:Nat}{f:Nat→Rat}(h:0<aN n f):∃i,i<n∧0<f i:=by
 false_or_by_contra
 rename_i hc
 have:aN n f≤aN n (fun _=>0):=Cx (fun i hi=>by
  have:¬0<f i:=fun hp=>hc ⟨i,hi,hp⟩
  grind)
 rw[Cv]at this
 grind
theorem KQ{n k:Nat}(hk:k<n)(f:Nat→Rat):aN n (fun i=>if i=k then f i else 0)=f k:=by
 rw[nU hk _ (fun i _ a4=>if_neg a4),if_pos rfl]
structure al where
 m:Nat
 n:Nat
 A:Nat→Nat→Rat
 c:Nat→Rat
 B:Nat→Nat
namespace al
def lr(T:al)(x:Nat→Rat):Prop:=∀i,i<T.m→aN (T.n+1) (fun j=>T.A i j*x j)=0
def cost(T:al)(x:Nat→Rat):Rat:=aN (T.n+1) (fun j=>T.c j*x j)
structure WF(T:al):Prop where
 lt:∀i,i<T.m→T.B i<T.n
 unit:∀i k,i<T.m→k<T.m→T.A k (T.B i)=if k=i then 1 else 0
 zero:∀i,i<T.m→T.c (T.B i)=0
theorem WF.inj{T:al}(h:T.WF){i k:Nat}(hi:i<T.m)(hk:k<T.m)(e:T.B i=T.B k):i=k:=by
 have h1:=h.unit i k hi hk
 have h2:=h.unit k k hk hk
 rw[e,h2]at h1
 simp at h1
 exact h1.symm
def iM(T:al):Prop:=∀i,i<T.m→0≤T.A i T.n
def dir(T:al)(s:Nat)(j:Nat):Rat:=(if j=s then 1 else 0)-aN T.m (fun i=>if T.B i=j then T.A i s else 0)
theorem vX(T:al)(hB:∀i,i<T.m→T.B i<T.n)(s:Nat)(hs:s≤T.n)(f:Nat→Rat):
  aN (T.n+1) (fun j=>f j*T.dir s j)=f s-aN T.m (fun i=>f (T.B i)*T.A i s):=by
 have e1:∀j,f j*T.dir s j=(if j=s then f j else 0)-aN T.m (fun i=>if j=T.B i then f j*T.A i s else 0):=by
  intro j
  unfold dir
  have:aN T.m (fun i=>if j=T.B i then f j*T.A i s else 0)=f j*aN T.m (fun i=>if T.B i=j then T.A i s else 0):=by
   rw[←qb]
   refine dY fun i _=> ?_
   by_cases e:T.B i=j
   ·rw[if_pos e,if_pos e.symm]
   ·rw[if_neg e,if_neg (fun h=>e h.symm)];grind
  rw[this]
  by_cases e:j=s
  ·rw[if_pos e,if_pos e];grind
  ·rw[if_neg e,if_neg e];grind
 rw[dY (fun j _=>e1 j),ym,KQ (by omega)]
 congr 1
 rw[Cw]
 refine dY fun i hi=> ?_
 have:=hB i hi
 exact KQ (f:=fun j=>f j*T.A i s) (by omega)
theorem rB{T:al}(h:T.WF)(s:Nat)(hs:s≤T.n):T.lr (T.dir s):=by
 intro k hk
 rw[vX T h.lt s hs]
 rw[nU hk]
 ·rw[h.unit k k hk hk,if_pos rfl];grind
 ·intro i hi a4
  rw[h.unit i k hi hk,if_neg (fun e=>a4 e.symm)];grind
theorem vY{T:al}(h:T.WF)(s:Nat)(hs:s≤T.n):T.cost (T.dir s)=T.c s:=by
 unfold cost
 rw[vX T h.lt s hs,kI]
 ·grind
 ·intro i hi;rw[h.zero i hi];grind
def bM(T:al)(r s:Nat):al:=
 {m:=T.m,n:=T.n
  A:=fun i j=>if i=r then T.A r j/T.A r s else T.A i j-T.A i s*(T.A r j/T.A r s)
  c:=fun j=>T.c j-T.c s*(T.A r j/T.A r s)
  B:=fun i=>if i=r then s else T.B i}
theorem vZ{T:al}(h:T.WF){r s:Nat}(hr:r<T.m)(hs:s<T.n)(hp:T.A r s≠0):(T.bM r s).WF:=by
 refine⟨fun i hi=> ?_,fun i k hi hk=> ?_,fun i hi=> ?_⟩
 ·simp only[bM]at hi⊢
  split
  ·exact hs
  ·exact h.lt i hi
 ·simp only[bM]at hi hk⊢
  by_cases ei:i=r
  ·simp only[if_pos ei]
   by_cases ek:k=r
   ·simp only[ek,ei,if_true];grind
   ·simp only[if_neg ek]
    rw[if_neg (by omega)];grind
  ·simp only[if_neg ei]
   have hu:=h.unit i r hi hr
   rw[if_neg (fun e=>ei e.symm)]at hu
   rw[hu]
   by_cases ek:k=r
   ·simp only[if_pos ek]
    rw[if_neg (by omega)];grind
   ·simp only[if_neg ek]
    rw[h.unit i k hi hk];grind
 ·simp only[bM]at hi⊢
  by_cases ei:i=r
  ·simp only[if_pos ei];grind
  ·simp only[if_neg ei]
   have hu:=h.unit i r hi hr
   rw[if_neg (fun e=>ei e.symm)]at hu
   rw[hu,h.zero i hi];grind
theorem KR(T:al)(r s i:Nat)(x:Nat→Rat):
  aN (T.n+1) (fun j=>(T.bM r s).A i j*x j) =
   if i=r then aN (T.n+1) (fun j=>T.A r j*x j)/T.A r s
   else aN (T.n+1) (fun j=>T.A i j*x j)-T.A i s*(aN (T.n+1) (fun j=>T.A r j*x j)/T.A r s):=by
 simp only[bM]
 by_cases e:i=r
 ·simp only[if_pos e]
  rw[Rat.div_def,←oY]
  exact dY fun j _=>by grind
 ·simp only[if_neg e]
  rw[Rat.div_def,←oY,←qb,←ym]
  exact dY fun j _=>by grind
theorem FQ{T:al}{r s:Nat}(hr:r<T.m)(hp:T.A r s≠0)(x:Nat→Rat):(T.bM r s).lr x↔T.lr x:=by
 constructor
 ·intro h i hi
  have cF:=h r hr
  have eA:=h i hi
  have en:(T.bM r s).n=T.n:=rfl
  rw[en,KR]at cF eA
  rw[if_pos rfl]at cF
  have h0:aN (T.n+1) (fun j=>T.A r j*x j)=0:=by grind
  by_cases e:i=r
  ·subst e;exact h0
  ·rw[if_neg e]at eA;grind
 ·intro h i hi
  have en:(T.bM r s).n=T.n:=rfl
  have em:(T.bM r s).m=T.m:=rfl
  rw[em]at hi
  rw[en,KR,h r hr,h i hi]
  split <;> grind
theorem KS{T:al}{r s:Nat}(hr:r<T.m)(x:Nat→Rat)(hx:T.lr x):(T.bM r s).cost x=T.cost x:=by
 have e:(T.bM r s).cost x=T.cost x-T.c s*(aN (T.n+1) (fun j=>T.A r j*x j)/T.A r s):=by
  unfold cost
  simp only[bM]
  rw[Rat.div_def,←oY,←qb,←ym]
  exact dY fun j _=>by grind
 rw[e,hx r hr];grind
structure oZ(T:al)(u r s:Nat):Prop where
 su:s<u
 neg:T.c s<0
 first:∀j,j<s→0≤T.c j
 rm:r<T.m
 pos:0<T.A r s
 least:∀i,i<T.m→0<T.A i s→T.A r T.n/T.A r s<T.A i T.n/T.A i s∨(T.A r T.n/T.A r s=T.A i T.n/T.A i s∧T.B r≤T.B i)
theorem FR{a b:Rat}(ha:0≤a)(hb:0<b):0≤a/b:=by
 rw[Rat.div_def]
 have:0<b⁻¹:=Rat.inv_pos.2 hb
 exact Rat.mul_nonneg ha (Rat.le_of_lt this)
theorem FT{T:al}{u r s:Nat}(hf:T.iM)(hb:T.oZ u r s):(T.bM r s).iM:=by
 intro i hi
 have eA:i<T.m:=hi
 have hr:=hf r hb.rm
 have nC:=hf i eA
 have hq:0≤T.A r T.n/T.A r s:=FR hr hb.pos
 show 0≤(if i=r then T.A r T.n/T.A r s else T.A i T.n-T.A i s*(T.A r T.n/T.A r s))
 split
 ·exact hq
 ·by_cases hp:0<T.A i s
  ·have hl:T.A r T.n/T.A r s≤T.A i T.n/T.A i s:=by
    rcases hb.least i eA hp with h | h
    ·exact Rat.le_of_lt h
    ·rw[h.1];exact Rat.le_refl
   have h3:T.A i s*(T.A r T.n/T.A r s)≤T.A i s*(T.A i T.n/T.A i s):=Rat.mul_le_mul_of_nonneg_left hl (Rat.le_of_lt hp)
   have h4:T.A i s*(T.A i T.n/T.A i s)=T.A i T.n:=by grind
   grind
  ·have h5:0≤(- T.A i s)*(T.A r T.n/T.A r s):=Rat.mul_nonneg (by grind) hq
   grind
structure nV(u:Nat)(len:Nat) where
 T:Nat→al
 r:Nat→Nat
 s:Nat→Nat
 wf:(T 0).WF
 ej:(T 0).iM
 un:u≤(T 0).n
 step:∀k,k<len→(T k).oZ u (r k) (s k)
 next:∀k,k<len→T (k+1)=(T k).bM (r k) (s k)
namespace nV
variable {u len:Nat} (R:nV u len)
theorem wa(k:Nat)(hk:k≤len):(R.T k).n=(R.T 0).n:=by
 induction k with
 | zero=>rfl
 | succ k ih=>rw[R.next k (by omega)];exact ih (by omega)
theorem sn{k:Nat}(hk:k<len):R.s k<(R.T k).n:=by
 have:=(R.step k hk).su
 have:=R.un
 rw[R.wa k (by omega)];omega
theorem rC(k:Nat)(hk:k≤len):(R.T k).WF:=by
 induction k with
 | zero=>exact R.wf
 | succ k ih=>
  rw[R.next k (by omega)]
  have hb:=R.step k (by omega)
  have:=hb.pos
  exact vZ (ih (by omega)) hb.rm (R.sn (by omega)) (by grind)
theorem Tl(k:Nat)(hk:k≤len):(R.T k).iM:=by
 induction k with
 | zero=>exact R.ej
 | succ k ih=>
  rw[R.next k (by omega)]
  exact FT (ih (by omega)) (R.step k (by omega))
theorem KT(k:Nat)(hk:k≤len)(x:Nat→Rat):(R.T k).lr x↔(R.T 0).lr x:=by
 induction k with
 | zero=>exact Iff.rfl
 | succ k ih=>
  rw[R.next k (by omega)]
  have hb:=R.step k (by omega)
  have:=hb.pos
  rw[FQ hb.rm (by grind)]
  exact ih (by omega)
theorem KU(k:Nat)(hk:k≤len)(x:Nat→Rat)(hx:(R.T 0).lr x):(R.T k).cost x=(R.T 0).cost x:=by
 induction k with
 | zero=>rfl
 | succ k ih=>
  rw[R.next k (by omega)]
  have hb:=R.step k (by omega)
  rw[KS hb.rm x ((R.KT k (by omega) x).2 hx)]
  exact ih (by omega)
def basic(k j:Nat):Prop:=∃i,i<(R.T k).m∧(R.T k).B i=j
def val(T:al)(j:Nat):Rat:=aN T.m (fun i=>if T.B i=j then T.A i T.n else 0)
theorem FU{T:al}(h:T.WF){i:Nat}(hi:i<T.m):val T (T.B i)=T.A i T.n:=by
 unfold val
 rw[nU hi,if_pos rfl]
 intro k hk a4
 rw[if_neg]
 exact fun e=>a4 (h.inj hk hi e)
def o0(k:Nat):Prop:=(R.T k).A (R.r k) (R.T k).n=0
theorem KV{k:Nat}(hk:k<len)(hd:R.o0 k)(j:Nat):val (R.T (k+1)) j=val (R.T k) j:=by
 rw[R.next k hk]
 unfold val
 unfold o0 at hd
 refine dY fun i hi=> ?_
 simp only[bM]
 rw[hd]
 by_cases e:i=R.r k
 ·subst e;simp only[if_true,hd];grind
 ·simp only[if_neg e];grind
theorem KW{a b:Nat}(Cy:a≤b)(hb:b≤len)(hd:∀k,a≤k→k<b→R.o0 k)(j:Nat):val (R.T b) j=val (R.T a) j:=by
 induction b with
 | zero=>obtain rfl:a=0:=by omega
         rfl
 | succ b ih=>
  by_cases e:a=b+1
  ·subst e;rfl
  ·rw[R.KV (by omega) (hd b (by omega) (by omega))]
   exact ih (by omega) (by omega) (fun k h1 h2=>hd k h1 (by omega))
theorem yo{k:Nat}(hk:k<len)(j:Nat):R.basic (k+1) j↔(j=R.s k∨(R.basic k j∧j≠(R.T k).B (R.r k))):=by
 unfold basic
 rw[R.next k hk]
 have hb:=R.step k hk
 have hw:=R.rC k (by omega)
 constructor
 ·rintro⟨i,hi,e⟩
  have eA:i<(R.T k).m:=hi
  have e':(if i=R.r k then R.s k else(R.T k).B i)=j:=e
  by_cases er:i=R.r k
  ·rw[if_pos er]at e';exact .inl e'.symm
  ·rw[if_neg er]at e'
   refine .inr ⟨⟨i,eA,e'⟩,fun h=>er (hw.inj eA hb.rm (by rw[e',h]))⟩
 ·rintro(h | ⟨⟨i,hi,e⟩,a4⟩)
  ·refine⟨R.r k,hb.rm,?_⟩
   show (if R.r k=R.r k then R.s k else _)=j
   rw[if_pos rfl,h]
  ·refine⟨i,hi,?_⟩
   show (if i=R.r k then R.s k else(R.T k).B i)=j
   rw[if_neg,e]
   intro er;exact a4 (by rw[←e,er])
theorem FV{k:Nat}(hk:k<len):¬R.basic k (R.s k):=by
 rintro⟨i,hi,e⟩
 have:=(R.rC k (by omega)).zero i hi
 rw[e]at this
 have:=(R.step k hk).neg
 grind
theorem FW{k:Nat}(hk:k<len):R.basic k ((R.T k).B (R.r k)):=⟨_,(R.step k hk).rm,rfl⟩
theorem change{a b:Nat}(Cy:a≤b)(hb:b≤len)(j:Nat)(h:¬(R.basic a j↔R.basic b j)):
  ∃k,a≤k∧k<b∧(R.s k=j∨(R.T k).B (R.r k)=j):=by
 induction b with
 | zero=>obtain rfl:a=0:=by omega
         exact absurd Iff.rfl h
 | succ b ih=>
  by_cases e:a=b+1
  ·subst e;exact absurd Iff.rfl h
  ·by_cases h2:R.s b=j∨(R.T b).B (R.r b)=j
   ·exact⟨b,by omega,by omega,h2⟩
   ·have:R.basic (b+1) j↔R.basic b j:=by
     rw[R.yo (by omega)]
     constructor
     ·rintro(h | h)
      ·exact absurd (.inl h.symm) h2
      ·exact h.1
     ·exact fun h=> .inr ⟨h,fun e=>h2 (.inr e.symm)⟩
    obtain⟨k,h3,h4,h5⟩:=ih (by omega) (by omega) (fun hh=>h (hh.trans this.symm))
    exact⟨k,h3,by omega,h5⟩
theorem val_zero{k:Nat}(hk:k<len)(hd:R.o0 k){j:Nat}(h:R.s k=j∨(R.T k).B (R.r k)=j):val (R.T k) j=0:=by
 rcases h with h | h
 ·rw[←R.KV hk hd]
  have e:j=(R.T (k+1)).B (R.r k):=by
   rw[R.next k hk]
   show j=if R.r k=R.r k then R.s k else _
   rw[if_pos rfl,h]
  rw[e,FU (R.rC (k+1) (by omega)) (by rw[R.next k hk];exact(R.step k hk).rm)]
  rw[R.next k hk]
  show (if R.r k=R.r k then(R.T k).A (R.r k) (R.T k).n/(R.T k).A (R.r k) (R.s k)else _)=0
  rw[if_pos rfl]
  unfold o0 at hd
  rw[hd];grind
 ·rw[←h,FU (R.rC k (by omega)) (R.step k hk).rm]
  exact hd
theorem Cz{a b t p q:Nat}(hb:b≤len)(hd:∀k,a≤k→k<b→R.o0 k)
  (hle:∀k,a≤k→k<b→R.s k≤t∧(R.T k).B (R.r k)≤t) (eS:a≤p) (e9:p<b) (bJ:a≤q) (bB:q<b)
  (hp:(R.T p).B (R.r p)=t) (hq:R.s q=t):False:=by
 have bp:=R.step p (by omega)
 have bq:=R.step q (by omega)
 have wp:=R.rC p (by omega)
 have hs:R.s p<t:=by
  have h1:=(hle p eS e9).1
  have h2:R.s p≠t:=fun e=>R.FV (k:=p) (by omega) (by rw[e,←hp];exact R.FW (by omega))
  omega
 have nW:R.s p≤(R.T p).n:=Nat.le_of_lt (R.sn (by omega))
 have Tm:=rB wp (R.s p) nW
 have KX:=(R.KT p (by omega) _).1 Tm
 have hc:=vY wp (R.s p) nW
 rw[R.KU p (by omega) _ KX,←R.KU q (by omega) _ KX]at hc
 have en:(R.T q).n=(R.T p).n:=by rw[R.wa p (by omega),R.wa q (by omega)]
 unfold cost at hc
 rw[en,vX _ wp.lt _ nW]at hc
 have e7:0≤(R.T q).c (R.s p):=bq.first _ (by rw[hq];exact hs)
 have fO:=bp.neg
 have FX:0<aN (R.T p).m (fun i=>(R.T q).c ((R.T p).B i)*(R.T p).A i (R.s p)):=by grind
 obtain⟨i,hi,qc⟩:=Tk FX
 have Cs:¬R.basic q ((R.T p).B i):=by
  rintro⟨k,hk,e⟩
  have:=(R.rC q (by omega)).zero k hk
  rw[e]at this
  rw[this]at qc;grind
 have Fg:R.basic p ((R.T p).B i):=⟨i,hi,rfl⟩
 have hex:∃k,a≤k∧k<b∧min p q≤k∧(R.s k=(R.T p).B i∨(R.T k).B (R.r k)=(R.T p).B i):=by
  rcases Nat.le_total p q with jw | jw
  ·obtain⟨k,h1,h2,h3⟩:=R.change jw (by omega) ((R.T p).B i) (fun h=>Cs (h.1 Fg))
   exact⟨k,by omega,by omega,by omega,h3⟩
  ·obtain⟨k,h1,h2,h3⟩:=R.change jw (by omega) ((R.T p).B i) (fun h=>Cs (h.2 Fg))
   exact⟨k,by omega,by omega,by omega,h3⟩
 obtain⟨k,fD,gj,_,dh⟩:=hex
 have KY:(R.T p).B i≤t:=by
  rcases dh with e | e
  ·rw[←e];exact(hle k fD gj).1
  ·rw[←e];exact(hle k fD gj).2
 have jB:val (R.T k) ((R.T p).B i)=0:=R.val_zero (by omega) (hd k fD gj) dh
 have KZ:val (R.T p) ((R.T p).B i)=0:=by
  rcases Nat.le_total p k with h | h
  ·rw[←R.KW h (by omega) (fun x h1 h2=>hd x (by omega) (by omega))];exact jB
  ·rw[R.KW h (by omega) (fun x h1 h2=>hd x (by omega) (by omega))];exact jB
 rw[FU wp hi]at KZ
 by_cases et:(R.T p).B i=t
 ·have:i=R.r p:=wp.inj hi bp.rm (by rw[et,hp])
  subst this
  have h1:=bq.neg
  rw[hq,←et]at h1
  have h2:=bp.pos
  have h3:(R.T q).c ((R.T p).B (R.r p))*(R.T p).A (R.r p) (R.s p)<0:=by
   have:=Rat.mul_pos (show 0 < -(R.T q).c ((R.T p).B (R.r p)) by grind) h2
   grind
  grind
 ·have a8:(R.T p).B i<t:=by omega
  have nT:0≤(R.T q).c ((R.T p).B i):=bq.first _ (by rw[hq];exact a8)
  have hA:0<(R.T p).A i (R.s p):=by
   false_or_by_contra
   rename_i hn
   have:0≤(R.T q).c ((R.T p).B i)*(-(R.T p).A i (R.s p)):=Rat.mul_nonneg nT (by grind)
   grind
  have FY:=hd p eS e9
  unfold o0 at FY
  have e0:(0:Rat)/(R.T p).A (R.r p) (R.s p)=0:=by grind
  have e1:(0:Rat)/(R.T p).A i (R.s p)=0:=by grind
  rcases bp.least i hi hA with h | h
  ·rw[FY,KZ,e0,e1]at h;exact absurd h (by decide)
  ·have:=h.2;omega
theorem short(t:Nat):∀a b,a≤b→b≤len→(∀k,a≤k→k<b→R.o0 k)→
  (∀k,a≤k→k<b→R.s k<t∧(R.T k).B (R.r k)<t)→b<a+2^t:=by
 induction t with
 | zero=>
  intro a b Cy hb hd a8
  by_cases e:a=b
  ·subst e;simp
  ·have:=a8 a (Nat.le_refl _) (by omega);omega
 | succ t ih=>
  intro a b Cy hb hd a8
  have hle:∀k,a≤k→k<b→R.s k≤t∧(R.T k).B (R.r k)≤t:=fun k h1 h2=>by
   have:=a8 k h1 h2;omega
  have h2:2^(t+1)=2^t+2^t:=by rw[Nat.pow_succ];omega
  have qc:0<2^t:=Nat.pow_pos (by omega)
  have once:∀k l,a≤k→k<l→l<b→(R.s k=t∨(R.T k).B (R.r k)=t)→¬(R.s l=t∨(R.T l).B (R.r l)=t):=by
   intro k l hk FZ hl gV iE
   rcases gV with gV | gV
   ·
    have aW:R.s l=t:=by
     rcases iE with h | h
     ·exact h
     ·exact(R.Cz hb hd hle (p:=l) (q:=k) (by omega) (by omega) (by omega) (by omega) h gV).elim
    have rD:R.basic (k+1) t:=(R.yo (by omega) t).2 (.inl gV.symm)
    have ku:¬R.basic l t:=by rw[←aW];exact R.FV (by omega)
    obtain⟨x,h1,h2,h3⟩:=R.change (a:=k+1) (b:=l) (by omega) (by omega) t (fun h=>ku (h.1 rD))
    have hx:∀y,k+1≤y→y≤l→R.basic y t:=by
     intro y hy
     induction y with
     | zero=>omega
     | succ y F3=>
      intro iF
      by_cases e:k=y
      ·subst e;exact rD
      ·have:=F3 (by omega) (by omega)
       refine(R.yo (by omega) t).2 (.inr ⟨this,fun e=> ?_⟩)
       exact R.Cz hb hd hle (p:=y) (q:=k) (by omega) (by omega) (by omega) (by omega) e.symm gV
    exact ku (hx l (by omega) (Nat.le_refl _))
   ·have aW:(R.T l).B (R.r l)=t:=by
     rcases iE with h | h
     ·exact(R.Cz hb hd hle (p:=k) (q:=l) (by omega) (by omega) (by omega) (by omega) gV h).elim
     ·exact h
    have rD:¬R.basic (k+1) t:=by
     rw[R.yo (by omega) t]
     rintro(h | h)
     ·exact R.FV (k:=k) (by omega) (by rw[←h,←gV];exact R.FW (by omega))
     ·exact h.2 gV.symm
    have ku:R.basic l t:=by rw[←aW];exact R.FW (by omega)
    have hx:∀y,k+1≤y→y≤l→¬R.basic y t:=by
     intro y hy
     induction y with
     | zero=>omega
     | succ y F3=>
      intro iF
      by_cases e:k=y
      ·subst e;exact rD
      ·have:=F3 (by omega) (by omega)
       rw[R.yo (by omega) t]
       rintro(h | h)
       ·exact R.Cz hb hd hle (p:=k) (q:=y) (by omega) (by omega) (by omega) (by omega) gV h.symm
       ·exact this h.1
    exact hx l (by omega) (Nat.le_refl _) ku
  by_cases hex:∃k,a≤k∧k<b∧(R.s k=t∨(R.T k).B (R.r k)=t)
  ·obtain⟨k,fD,gj,dh⟩:=hex
   have h3:=ih a k (by omega) (by omega) (fun x h1 h2=>hd x h1 (by omega)) (fun x h1 h2=>by
    have hl:=hle x h1 (by omega)
    have hn:¬(R.s x=t∨(R.T x).B (R.r x)=t):=fun h=>once x k h1 h2 gj h dh
    omega)
   have h4:=ih (k+1) b (by omega) hb (fun x h1 h2=>hd x (by omega) h2) (fun x h1 h2=>by
    have hl:=hle x (by omega) h2
    have hn:=once k x fD (by omega) h2 dh
    omega)
   omega
  ·have h3:=ih a b Cy hb hd (fun x h1 h2=>by
    have hl:=hle x h1 h2
    have hn:¬(R.s x=t∨(R.T x).B (R.r x)=t):=fun h=>hex ⟨x,h1,h2,h⟩
    omega)
   omega
end nV
end al
end Lp
namespace Lp
namespace al
structure gp(T S:al):Prop where
 m:S.m=T.m
 n:S.n=T.n
 jY:∀x,S.lr x↔T.lr x
 cost:∀x,T.lr x→S.cost x=T.cost x
theorem gp.symm{T S:al}(h:gp T S):gp S T:=⟨h.m.symm,h.n.symm,fun x=>(h.jY x).symm,fun x hx=>(h.cost x ((h.jY x).1 hx)).symm⟩
theorem gp.trans{T S R:al}(h:gp T S)(h':gp S R):gp T R:=
 ⟨h'.m.trans h.m,h'.n.trans h.n,fun x=>(h'.jY x).trans (h.jY x),fun x hx=>(h'.cost x ((h.jY x).2 hx)).trans (h.cost x hx)⟩
theorem gp.bM{T:al}{r s:Nat}(hr:r<T.m)(hp:T.A r s≠0):gp T (T.bM r s):=
 ⟨rfl,rfl,fun x=>FQ hr hp x,fun x hx=>KS hr x hx⟩
theorem Tn{T S:al}(h:gp T S)(hT:T.WF)(hS:S.WF)(hB:∀i,i<T.m→S.B i=T.B i):S.c S.n=T.c T.n:=by
 have h1:=rB hT T.n (Nat.le_refl _)
 have h2:=h.cost _ h1
 rw[vY hT T.n (Nat.le_refl _)]at h2
 unfold cost at h2
 rw[h.n,vX T hT.lt _ (Nat.le_refl _),kI]at h2
 ·rw[h.n];grind
 ·intro i hi
  rw[←hB i hi,hS.zero i (by rw[h.m];exact hi)];grind
def yp(n:Nat):Nat→List (List Nat)
 | 0=>[[]]
 | m+1=>(yp n m).flatMap fun l=>(List.range n).map fun j=>l ++ [j]
theorem To(n m:Nat)(f:Nat→Nat)(h:∀i,i<m→f i<n):(List.range m).map f∈yp n m:=by
 induction m with
 | zero=>simp[yp]
 | succ m ih=>
  simp only[yp,List.mem_flatMap,List.mem_map,List.mem_range]
  exact⟨_,ih (fun i hi=>h i (by omega)),f m,h m (by omega),by rw[List.range_succ,List.map_append];rfl⟩
theorem K1{α:Type}(p q:α→Bool)(l:List α)(h:∀x,x∈l→p x=true→q x=true)
  (hx:∃x,x∈l∧q x=true∧p x=false):l.countP p<l.countP q:=by
 induction l with
 | nil=>obtain⟨x,hx,_⟩:=hx;cases hx
 | cons a l ih=>
  have hle:l.countP p≤l.countP q:=List.countP_mono_left fun x hx hp=>h x (List.mem_cons_of_mem _ hx) hp
  rw[List.countP_cons,List.countP_cons]
  obtain⟨x,di,dL,fa⟩:=hx
  rcases List.mem_cons.1 di with e | e
  ·subst e
   rw[dL,fa];simp;omega
  ·have:=ih (fun y hy=>h y (List.mem_cons_of_mem _ hy)) ⟨x,e,dL,fa⟩
   have ha:=h a (List.mem_cons_self ..)
   cases hp:p a
   ·simp;omega
   ·rw[ha hp];simp;omega
def CA(T:al)(l:List Nat):Prop:=∃S:al,S.WF∧gp T S∧(List.range T.m).map S.B=l∧T.c T.n<S.c S.n
open Classical in
noncomputable def qd(T:al):Nat:=(yp T.n T.m).countP fun l=>decide (CA T l)
theorem CA.of{T S:al}(h:gp T S)(hv:T.c T.n≤S.c S.n){l:List Nat}(hb:CA S l):CA T l:=by
 obtain⟨R,h1,h2,h3,h4⟩:=hb
 refine⟨R,h1,h.trans h2,by rw[←h.m];exact h3,by grind⟩
open Classical in
theorem Tp{T S:al}(h:gp T S)(hv:T.c T.n≤S.c S.n):qd S≤qd T:=by
 unfold qd
 rw[h.m,h.n]
 exact List.countP_mono_left fun l _ hp=>by
  have:=of_decide_eq_true hp
  exact decide_eq_true (this.of h hv)
open Classical in
theorem Tq{T S:al}(h:gp T S)(hS:S.WF)(hv:T.c T.n<S.c S.n):qd S<qd T:=by
 unfold qd
 rw[h.m,h.n]
 refine K1 _ _ _ (fun l _ hp=> ?_) ⟨(List.range T.m).map S.B,?_,?_,?_⟩
 ·have:=of_decide_eq_true hp
  exact decide_eq_true (this.of h (Rat.le_of_lt hv))
 ·exact To _ _ _ (fun i hi=>by rw[←h.n];exact hS.lt i (by rw[h.m];exact hi))
 ·exact decide_eq_true ⟨S,hS,h,rfl,hv⟩
 ·refine decide_eq_false ?_
  rintro⟨R,h1,h2,h3,h4⟩
  have:R.c R.n=S.c S.n:=Tn h2 hS h1 (fun i hi=>by
   rw[h.m]at h3 hi
   exact List.map_inj_left.1 h3 i (List.mem_range.2 hi))
  grind
theorem Tr{T:al}{u r s:Nat}(hf:T.iM)(hb:T.oZ u r s):
  T.c T.n≤(T.bM r s).c (T.bM r s).n∧(T.A r T.n≠0→T.c T.n<(T.bM r s).c (T.bM r s).n):=by
 have e:(T.bM r s).c (T.bM r s).n=T.c T.n-T.c s*(T.A r T.n/T.A r s):=rfl
 rw[e]
 have hq:=FR (hf r hb.rm) hb.pos
 have hn:=hb.neg
 constructor
 ·have:=Rat.mul_nonneg (show 0≤- T.c s by grind) hq
  grind
 ·intro h0
  have hp:0<T.A r T.n/T.A r s:=by
   have qc:=hb.pos
   have:T.A r T.n/T.A r s≠0:=fun h=>h0 (by
    have:T.A r T.n/T.A r s*T.A r s=T.A r T.n:=by grind
    grind)
   grind
  have:=Rat.mul_pos (show 0 < - T.c s by grind) hp
  grind
def Step(u:Nat)(S T:al):Prop:=∃r s,T.oZ u r s∧S=T.bM r s
def nV.nil{u:Nat}(T:al)(hw:T.WF)(hf:T.iM)(hu:u≤T.n):nV u 0:=
 {T:=fun _=>T,r:=fun _=>0,s:=fun _=>0,wf:=hw,ej:=hf,un:=hu
  step:=fun k hk=>absurd hk (by omega),next:=fun k hk=>absurd hk (by omega)}
def nV.snoc{u h:Nat}(R:nV u h)(r s:Nat)(hb:(R.T h).oZ u r s):nV u (h+1):=
 {T:=fun k=>if k≤h then R.T k else(R.T h).bM r s
  r:=fun k=>if k<h then R.r k else r
  s:=fun k=>if k<h then R.s k else s
  wf:=by simpa using R.wf
  ej:=by simpa using R.ej
  un:=by simpa using R.un
  step:=fun k hk=>by
   simp only[show k≤h by omega,if_true]
   by_cases e:k<h
   ·simp only[e,if_true];exact R.step k e
   ·simp only[e,if_false]
    obtain rfl:k=h:=by omega
    exact hb
  next:=fun k hk=>by
   simp only[show k≤h by omega,if_true]
   by_cases e:k<h
   ·simp only[e,if_true,show k+1≤h by omega];exact R.next k e
   ·simp only[e,if_false]
    obtain rfl:k=h:=by omega
    simp only[show ¬(k+1≤k) by omega,if_false]}
theorem ends(u:Nat):∀(v:Nat)(T:al),T.WF→T.iM→u≤T.n→qd T≤v→Acc (Step u) T:=by
 intro v
 induction v using Nat.strongRecOn with
 | _ v ih=>
  intro T hw hf hu hv
  have key:∀d h (R:nV u h),(∀k,k<h→R.o0 k)→qd (R.T h)≤v→2^(R.T 0).n≤h+d→Acc (Step u) (R.T h):=by
   intro d
   induction d with
   | zero=>
    intro h R hd hr hp
    have:=R.short (R.T 0).n 0 h (by omega) (Nat.le_refl _) (fun k _ hk=>hd k hk) (fun k _ hk=>by
     refine⟨?_,?_⟩
     ·have:=R.sn hk
      rw[R.wa k (by omega)]at this;exact this
     ·have:=(R.rC k (by omega)).lt _ (R.step k hk).rm
      rw[R.wa k (by omega)]at this;exact this)
    omega
   | succ d Ts=>
    intro h R hd hr hp
    refine Acc.intro _ fun S hS=> ?_
    obtain⟨r,s,hb,rfl⟩:=hS
    have F4:=R.rC h (Nat.le_refl _)
    have F5:=R.Tl h (Nat.le_refl _)
    have mT:u≤(R.T h).n:=by rw[R.wa h (Nat.le_refl _)];exact R.un
    have qc:=hb.pos
    have a4:(R.T h).A r s≠0:=by grind
    have nW:s<(R.T h).n:=by have:=hb.su;omega
    have yq:=gp.bM hb.rm a4
    have qe:=Tr F5 hb
    by_cases h0:(R.T h).A r (R.T h).n=0
    ·have e:(R.snoc r s hb).T (h+1)=(R.T h).bM r s:=by
      show (if h+1≤h then _ else _)=_
      rw[if_neg (by omega)]
     rw[←e]
     refine Ts (h+1) (R.snoc r s hb) (fun k hk=> ?_) ?_ ?_
     ·unfold nV.o0
      have e1:(R.snoc r s hb).T k=R.T k:=by
       show (if k≤h then _ else _)=_
       rw[if_pos (by omega)]
      rw[e1]
      by_cases ek:k<h
      ·have e2:(R.snoc r s hb).r k=R.r k:=by
        show (if k<h then _ else _)=_
        rw[if_pos ek]
       rw[e2];exact hd k ek
      ·obtain rfl:k=h:=by omega
       have e2:(R.snoc r s hb).r k=r:=by
        show (if k<k then _ else _)=_
        rw[if_neg (by omega)]
       rw[e2];exact h0
     ·rw[e];exact Nat.le_trans (Tp yq qe.1) hr
     ·have e3:(R.snoc r s hb).T 0=R.T 0:=by
       show (if 0≤h then R.T 0 else(R.T h).bM r s)=_
       rw[if_pos (by omega)]
      rw[e3];omega
    ·have a8:=Tq yq (vZ F4 hb.rm nW a4) (qe.2 h0)
     exact ih (qd ((R.T h).bM r s)) (by omega) _ (vZ F4 hb.rm nW a4) (FT F5 hb) mT (Nat.le_refl _)
  have:=key (2^T.n) 0 (nV.nil T hw hf hu) (fun k hk=>absurd hk (by omega)) hv (by
   show 2^T.n≤0+2^T.n
   omega)
  exact this
theorem Tt{u:Nat}{T:al}(hw:T.WF)(hf:T.iM)(hu:u≤T.n):Acc (Step u) T:=ends u _ T hw hf hu (Nat.le_refl _)
end al
end Lp
namespace Lp
structure LP where
 n:Nat
 m:Nat
 free:Nat→Bool
 a:Nat→Nat→Rat
 rel:Nat→Int
 b:Nat→Rat
def jZ(r:Int)(x:Rat):Prop:=(r=1→x≤0)∧(r=2→x=0)∧(r=3→0≤x)
def bL(n:Nat)(c x:Nat→Rat):Rat:=aN n (fun j=>c j*x j)
namespace LP
variable (p:LP)
def Valid:Prop:=∀i,i<p.m→p.rel i=1∨p.rel i=2∨p.rel i=3
def ft(t:Rat)(x:Nat→Rat):Prop:=(∀j,j<p.n→p.free j=false→0≤x j)∧∀i,i<p.m→jZ (p.rel i) (bL p.n (p.a i) x-p.b i*t)
def Signed(y:Nat→Rat):Prop:=∀i,i<p.m→(p.rel i=3→0≤y i)∧(p.rel i=1→y i≤0)
def dP(y:Nat→Rat)(j:Nat):Rat:=aN p.m (fun i=>y i*p.a i j)
def kJ(y:Nat→Rat):Rat:=aN p.m (fun i=>y i*p.b i)
structure qf(c x y:Nat→Rat):Prop where
 ej:p.ft 1 x
 signed:p.Signed y
 eZ:∀j,j<p.n→0≤c j-p.dP y j∧(p.free j=true→c j-p.dP y j≤0)
 eq:p.kJ y=bL p.n c x
structure rE(y:Nat→Rat):Prop where
 signed:p.Signed y
 eZ:∀j,j<p.n→p.dP y j≤0∧(p.free j=true→0≤p.dP y j)
 pos:0<p.kJ y
structure rF(c x r:Nat→Rat):Prop where
 ej:p.ft 1 x
 ik:p.ft 0 r
 neg:bL p.n c r<0
def yr:Prop:=∀x,¬p.ft 1 x
def qg(c:Nat→Rat)(v:Rat):Prop:=(∃x,p.ft 1 x∧bL p.n c x=v)∧∀x,p.ft 1 x→v≤bL p.n c x
def yt(c:Nat→Rat):Prop:=(∃x,p.ft 1 x)∧∀v,∃x,p.ft 1 x∧bL p.n c x<v
end LP
theorem K2(n:Nat)(c x y:Nat→Rat):bL n c (fun j=>x j+y j)=bL n c x+bL n c y:=by
 unfold bL
 rw[←FP]
 exact dY fun j _=>by grind
theorem K3(n:Nat)(c x:Nat→Rat)(k:Rat):bL n c (fun j=>k*x j)=k*bL n c x:=by
 unfold bL
 rw[←qb]
 exact dY fun j _=>by grind
theorem Tu{n:Nat}{c c' x x':Nat→Rat}(h:∀j,j<n→c j=c' j)(h':∀j,j<n→x j=x' j):bL n c x=bL n c' x':=
 dY fun j hj=>by rw[h j hj,h' j hj]
namespace LP
variable {p:LP}
theorem Tv(p:LP)(y x:Nat→Rat):bL p.n (p.dP y) x=aN p.m (fun i=>y i*bL p.n (p.a i) x):=by
 unfold bL dP
 have h1:∀j,aN p.m (fun i=>y i*p.a i j)*x j=aN p.m (fun i=>y i*p.a i j*x j):=fun j=>(oY _ _ _).symm
 have h2:∀i,y i*aN p.n (fun j=>p.a i j*x j)=aN p.n (fun j=>y i*p.a i j*x j):=fun i=>by
  rw[←qb]
  exact dY fun j _=>by grind
 rw[dY (fun j _=>h1 j),dY (fun i _=>h2 i),Cw]
theorem K4(hv:p.Valid){t:Rat}{x y:Nat→Rat}(hx:p.ft t x)(hy:p.Signed y):p.kJ y*t≤bL p.n (p.dP y) x:=by
 rw[Tv]
 unfold kJ
 rw[←oY]
 refine Cx fun i hi=> ?_
 have h1:=hx.2 i hi
 have h2:=hy i hi
 rcases hv i hi with e | e | e
 ·have h3:=h1.1 e
  have h4:=h2.2 e
  have h5:0≤(- y i)*(- (bL p.n (p.a i) x-p.b i*t)):=Rat.mul_nonneg (by grind) (by grind)
  grind
 ·have h3:=h1.2.1 e
  have:bL p.n (p.a i) x=p.b i*t:=by grind
  rw[this];grind
 ·have h3:=h1.2.2 e
  have h4:=h2.1 e
  have h5:0≤y i*(bL p.n (p.a i) x-p.b i*t):=Rat.mul_nonneg h4 h3
  grind
theorem rE.isInf(hv:p.Valid){y:Nat→Rat}(h:p.rE y):p.yr:=fun x hx=>by
 have h1:=K4 hv hx h.signed
 have h2:bL p.n (p.dP y) x≤0:=by
  have:bL p.n (p.dP y) x≤aN p.n (fun _=>0):=Cx fun j hj=>by
   have h3:=h.eZ j hj
   cases hf:p.free j with
   | true=>have h4:=h3.2 hf;have:p.dP y j=0:=by grind
           rw[this];grind
   | false=>
    have h5:=hx.1 j hj hf
    have:0≤(- p.dP y j)*x j:=Rat.mul_nonneg (by grind) h5
    grind
  rwa [Cv]at this
 have:=h.pos
 grind
theorem below{c x y:Nat→Rat}(hv:p.Valid)(hx:p.ft 1 x)(hy:p.Signed y)(hc:∀j,j<p.n→0≤c j-p.dP y j∧(p.free j=true→c j-p.dP y j≤0)):p.kJ y≤bL p.n c x:=by
 have h1:=K4 hv hx hy
 have h2:bL p.n (p.dP y) x≤bL p.n c x:=Cx fun j hj=>by
  have h3:=hc j hj
  cases hf:p.free j with
  | true=>have h4:=h3.2 hf;have:p.dP y j=c j:=by grind
          rw[this];exact Rat.le_refl
  | false=>
   have h5:=hx.1 j hj hf
   have:0≤(c j-p.dP y j)*x j:=Rat.mul_nonneg h3.1 h5
   grind
 grind
theorem qf.K5(hv:p.Valid){c x y:Nat→Rat}(h:p.qf c x y):p.qg c (bL p.n c x):=
 ⟨⟨x,h.ej,rfl⟩,fun x' ny=>by rw[←h.eq];exact below hv ny h.signed h.eZ⟩
theorem Tw{r:Int}{x y:Rat}(hx:jZ r x)(hy:jZ r y):jZ r (x+y):=
 ⟨fun e=>by have:=hx.1 e;have:=hy.1 e;grind,fun e=>by have:=hx.2.1 e;have:=hy.2.1 e;grind,fun e=>by have:=hx.2.2 e;have:=hy.2.2 e;grind⟩
theorem Tx{r:Int}{x k:Rat}(hx:jZ r x)(hk:0≤k):jZ r (k*x):=
 ⟨fun e=>by have:=hx.1 e;have:0≤k*(-x):=Rat.mul_nonneg hk (by grind)
            grind,fun e=>by have:=hx.2.1 e;rw[this];grind,fun e=>Rat.mul_nonneg hk (hx.2.2 e)⟩
theorem ft.move{t:Rat}{x r:Nat→Rat}(hx:p.ft t x)(hr:p.ft 0 r){k:Rat}(hk:0≤k):p.ft t (fun j=>x j+k*r j):=by
 refine⟨fun j hj hf=> ?_,fun i hi=> ?_⟩
 ·have h1:=hx.1 j hj hf
  have h2:=Rat.mul_nonneg hk (hr.1 j hj hf)
  grind
 ·have h1:=Tw (hx.2 i hi) (Tx (hr.2 i hi) hk)
  rw[K2,K3]
  have e:bL p.n (p.a i) x-p.b i*t+k*(bL p.n (p.a i) r-p.b i*0)=bL p.n (p.a i) x+k*bL p.n (p.a i) r-p.b i*t:=by grind
  rwa [e]at h1
theorem rF.Tz{c x r:Nat→Rat}(h:p.rF c x r):p.yt c:=by
 refine⟨⟨x,h.ej⟩,fun v=> ?_⟩
 have hn:=h.neg
 by_cases hv:bL p.n c x<v
 ·exact⟨x,h.ej,hv⟩
 ·have hd:0 < - bL p.n c r:=by grind
  have hq:0≤(bL p.n c x-v)/(- bL p.n c r):=al.FR (by grind) hd
  refine⟨_,h.ej.move h.ik (k:=(bL p.n c x-v)/(- bL p.n c r)+1) (by grind),?_⟩
  rw[K2,K3]
  have e:(bL p.n c x-v)/(- bL p.n c r)*(- bL p.n c r)=bL p.n c x-v:=by grind
  grind
theorem TA{c:Nat→Rat}{v:Rat}(h:p.qg c v)(k:p.yr):False:=by
 obtain⟨⟨x,hx,_⟩,_⟩:=h
 exact k x hx
theorem TB{c:Nat→Rat}{v:Rat}(h:p.qg c v)(k:p.yt c):False:=by
 obtain⟨x,hx,a8⟩:=k.2 v
 have:=h.2 x hx
 grind
theorem TC{c:Nat→Rat}{v w:Rat}(h:p.qg c v)(k:p.qg c w):v=w:=by
 obtain⟨⟨x,hx,rfl⟩,h2⟩:=h
 obtain⟨⟨y,hy,rfl⟩,k2⟩:=k
 have h3:=h2 y hy
 have h4:=k2 x hx
 grind
end LP
def eU(f:Nat→Rat):Option Nat→Rat
 | some k=>f k
 | none=>0
structure cL(p:LP)(A:Nat→Nat→Rat)(w u:Nat)(plus:Nat→Nat)(minus slack:Nat→Option Nat)(unit:Nat→Nat)(sg:Nat→Rat):Prop where
 valid:p.Valid
 uw:u≤w
 K6:∀i,i<p.m→sg i=1∨sg i = -1
 rhs:∀i,i<p.m→A i w=p.b i*sg i∧0≤A i w
 pl:∀j,j<p.n→plus j<u∧∀i,i<p.m→A i (plus j)=p.a i j*sg i
 mi:∀j,j<p.n→(p.free j=false→minus j=none)∧∀k,minus j=some k→k<u∧∀i,i<p.m→A i k = - (p.a i j*sg i)
 F6:∀j,j<p.n→p.free j=true→∃k,minus j=some k
 sl:∀i,i<p.m→(p.rel i=2→slack i=none)∧(p.rel i≠2→∃k,slack i=some k)∧∀k,slack i=some k→k<u∧∀q,q<p.m→A q k=if q=i then(if p.rel i=1 then sg i else-sg i)else 0
 un:∀i,i<p.m→unit i<w∧∀q,q<p.m→A q (unit i)=if q=i then 1 else 0
 sum:∀f,aN u f=aN p.n (fun j=>f (plus j)+eU f (minus j))+aN p.m (fun i=>eU f (slack i))
namespace cL
variable {p:LP} {A:Nat→Nat→Rat} {w u:Nat} {plus:Nat→Nat} {minus slack:Nat→Option Nat} {unit:Nat→Nat} {sg:Nat→Rat}
theorem K7{u w:Nat}(h:u≤w)(f:Nat→Rat)(h0:∀j,u≤j→j<w→f j=0):aN w f=aN u f:=by
 induction w with
 | zero=>obtain rfl:u=0:=by omega
         rfl
 | succ w ih=>
  by_cases e:u=w+1
  ·rw[e]
  ·rw[eG,ih (by omega) (fun j h1 h2=>h0 j h1 (by omega)),h0 w (by omega) (by omega)];grind
def vec(plus:Nat→Nat)(minus:Nat→Option Nat)(z:Nat→Rat)(j:Nat):Rat:=z (plus j)-eU z (minus j)
theorem meets(L:cL p A w u plus minus slack unit sg){z:Nat→Rat}{t:Rat}(hs:∀i,i<p.m→aN (w+1) (fun j=>A i j*z j)=0)(hw:z w = - t)
  (hn:∀j,j<u→0≤z j) (ha:∀j,u≤j→j<w→z j=0):p.ft t (vec plus minus z):=by
 refine⟨fun j hj hf=> ?_,fun i hi=> ?_⟩
 ·unfold vec
  rw[(L.mi j hj).1 hf]
  have:=hn _ (L.pl j hj).1
  simp only[eU];grind
 ·have h1:=hs i hi
  rw[eG,hw,K7 L.uw _ (fun j h1 h2=>by rw[ha j h1 h2];grind),L.sum]at h1
  have h2:aN p.n (fun j=>A i (plus j)*z (plus j)+eU (fun k=>A i k*z k) (minus j))=bL p.n (p.a i) (vec plus minus z)*sg i:=by
   unfold bL
   rw[←oY]
   refine dY fun j hj=> ?_
   rw[(L.pl j hj).2 i hi]
   unfold vec
   cases hm:minus j with
   | none=>simp only[eU];grind
   | some k=>
    have:=((L.mi j hj).2 k hm).2 i hi
    simp only[eU,this];grind
  rw[h2]at h1
  have h3:aN p.m (fun q=>eU (fun k=>A i k*z k) (slack q))=eU (fun k=>A i k*z k) (slack i):=by
   refine nU hi _ fun q hq a4=> ?_
   cases hm:slack q with
   | none=>rfl
   | some k=>
    have:=((L.sl q hq).2.2 k hm).2 i hi
    rw[if_neg (fun e=>a4 e.symm)]at this
    simp only[eU,this];grind
  rw[h3,(L.rhs i hi).1]at h1
  have ga:=L.K6 i hi
  have lv:=L.sl i hi
  have key:∀s:Rat,bL p.n (p.a i) (vec plus minus z)*sg i+s*sg i+p.b i*sg i * -t=0→bL p.n (p.a i) (vec plus minus z)-p.b i*t = - s:=by
   intro s hs
   rcases ga with e | e <;> rw[e]at hs <;> grind
  rcases L.valid i hi with e | e | e
  ·obtain⟨k,hk⟩:=lv.2.1 (by omega)
   have h4:=lv.2.2 k hk
   have h5:=h4.2 i hi
   rw[if_pos rfl,if_pos e]at h5
   have h6:=hn k h4.1
   rw[hk]at h1
   simp only[eU,h5]at h1
   have h7:=key (z k) (by grind)
   exact⟨fun _=>by grind,fun e'=>by omega,fun e'=>by omega⟩
  ·rw[lv.1 e]at h1
   simp only[eU]at h1
   have h7:=key 0 (by grind)
   exact⟨fun e'=>by omega,fun _=>by grind,fun e'=>by omega⟩
  ·obtain⟨k,hk⟩:=lv.2.1 (by omega)
   have h4:=lv.2.2 k hk
   have h5:=h4.2 i hi
   rw[if_pos rfl,if_neg (by omega)]at h5
   have h6:=hn k h4.1
   rw[hk]at h1
   simp only[eU,h5]at h1
   have h7:=key (- z k) (by grind)
   exact⟨fun e'=>by omega,fun e'=>by omega,fun _=>by grind⟩
def nX(A:Nat→Nat→Rat)(m w:Nat)(c0 c:Nat→Rat):Prop:=∃l:Nat→Rat,∀j,j≤w→c j=c0 j-aN m (fun k=>l k*A k j)
section
variable (L:cL p A w u plus minus slack unit sg) {c0 c:Nat→Rat} (ho:nX A p.m w c0 c)
include L ho
theorem F7:(∀j,j<p.n→p.dP (fun i=>sg i*(c0 (unit i)-c (unit i))) j=c0 (plus j)-c (plus j)∧∀k,minus j=some k→p.dP (fun i=>sg i*(c0 (unit i)-c (unit i))) j=c k-c0 k)
  ∧p.kJ (fun i=>sg i*(c0 (unit i)-c (unit i)))=c0 w-c w∧(∀i,i<p.m→∀k,slack i=some k→sg i*(c0 (unit i)-c (unit i))=if p.rel i=1 then c0 k-c k else c k-c0 k):=by
 obtain⟨l,hl⟩:=ho
 have hu:∀i,i<p.m→c0 (unit i)-c (unit i)=l i:=fun i hi=>by
  have h1:=L.un i hi
  rw[hl _ (by omega),nU hi (fun k=>l k*A k (unit i)) (fun q hq a4=>by rw[h1.2 q hq,if_neg a4];grind),h1.2 i hi,if_pos rfl];grind
 refine⟨fun j hj=>⟨?_,fun k hk=> ?_⟩,?_,fun i hi k hk=> ?_⟩
 ·have h1:=L.pl j hj
  have a8:=L.uw
  rw[hl _ (by omega)]
  unfold LP.dP
  rw[dY (g:=fun k=>l k*A k (plus j)) (fun i hi=>by show sg i*(c0 (unit i)-c (unit i))*_=_;rw[hu i hi,h1.2 i hi];grind)]
  grind
 ·have h1:=(L.mi j hj).2 k hk
  have a8:=L.uw
  rw[hl _ (by omega)]
  unfold LP.dP
  rw[dY (g:=fun q=> - (l q*A q k)) (fun i hi=>by show sg i*(c0 (unit i)-c (unit i))*_=_;rw[hu i hi,h1.2 i hi];grind),Cu]
  grind
 ·rw[hl _ (Nat.le_refl _)]
  unfold LP.kJ
  rw[dY (g:=fun k=>l k*A k w) (fun i hi=>by show sg i*(c0 (unit i)-c (unit i))*_=_;rw[hu i hi,(L.rhs i hi).1];grind)]
  grind
 ·have h1:=(L.sl i hi).2.2 k hk
  have a8:=L.uw
  rw[hu i hi,hl k (by omega),nU hi (fun q=>l q*A q k) (fun q hq a4=>by rw[h1.2 q hq,if_neg a4];grind),h1.2 i hi,if_pos rfl]
  split <;> grind
theorem K8(h0:∀i,i<p.m→∀k,slack i=some k→c0 k=0)(hn:∀j,j<u→0≤c j):p.Signed (fun i=>sg i*(c0 (unit i)-c (unit i))):=fun i hi=>by
 have h1:=(F7 L ho).2.2 i hi
 refine⟨fun e=> ?_,fun e=> ?_⟩
 ·obtain⟨k,hk⟩:=(L.sl i hi).2.1 (by omega)
  have h2:=h1 k hk
  have h3:=hn k ((L.sl i hi).2.2 k hk).1
  rw[if_neg (by omega),h0 i hi k hk]at h2
  simp only[h2];grind
 ·obtain⟨k,hk⟩:=(L.sl i hi).2.1 (by omega)
  have h2:=h1 k hk
  have h3:=hn k ((L.sl i hi).2.2 k hk).1
  rw[if_pos e,h0 i hi k hk]at h2
  simp only[h2];grind
theorem TD(h0:∀j,j<u→c0 j=0)(hw:c0 w=0)(hn:∀j,j<u→0≤c j)(fO:c w<0):p.rE (fun i=>sg i*(c0 (unit i)-c (unit i))):=by
 have hd:=F7 L ho
 refine⟨K8 L ho (fun i hi k hk=>h0 k ((L.sl i hi).2.2 k hk).1) hn,fun j hj=>⟨?_,fun hf=> ?_⟩,?_⟩
 ·have h1:=L.pl j hj
  rw[(hd.1 j hj).1,h0 _ h1.1]
  have:=hn _ h1.1
  grind
 ·obtain⟨k,hk⟩:=L.F6 j hj hf
  have h1:=(L.mi j hj).2 k hk
  rw[(hd.1 j hj).2 k hk,h0 k h1.1]
  have:=hn _ h1.1
  grind
 ·rw[hd.2.1,hw];grind
end
end cL
end Lp
namespace Lp
namespace al
structure Rows(A:Nat→Nat→Rat)(m' w:Nat)(T:al):Prop where
 m:T.m=m'
 n:T.n=w
 mul:∃R:Nat→Nat→Rat,∀i,i<m'→∀j,j≤w→T.A i j=aN m' (fun k=>R i k*A k j)
 jY:∀x,T.lr x↔∀i,i<m'→aN (w+1) (fun j=>A i j*x j)=0
section
variable {A:Nat→Nat→Rat} {m w:Nat} {T:al}
theorem TE(hA:∀i j,T.A i j=A i j)(hm:T.m=m)(hn:T.n=w):Rows A m w T:=by
 refine⟨hm,hn,⟨fun i k=>if k=i then 1 else 0,fun i hi j _=> ?_⟩,fun x=> ?_⟩
 ·rw[nU hi (fun k=>(if k=i then 1 else 0)*A k j) (fun q _ a4=>by rw[if_neg a4];grind),if_pos rfl,hA];grind
 ·unfold lr
  rw[hm,hn]
  constructor
  ·intro h i hi
   rw[←h i hi]
   exact dY fun j _=>by rw[hA]
  ·intro h i hi
   rw[←h i hi]
   exact dY fun j _=>by rw[hA]
theorem Rows.bM(h:Rows A m w T){r s:Nat}(hr:r<m)(hp:T.A r s≠0):Rows A m w (T.bM r s):=by
 obtain⟨R,hR⟩:=h.mul
 refine⟨h.m,h.n,⟨fun i k=>if i=r then R r k/T.A r s else R i k-T.A i s*(R r k/T.A r s),fun i hi j hj=> ?_⟩,fun x=> ?_⟩
 ·have e1:aN m (fun k=>R r k/T.A r s*A k j)=T.A r j/T.A r s:=by
   rw[hR r hr j hj,Rat.div_def,←oY]
   exact dY fun k _=>by grind
  by_cases e:i=r
  ·simp only[al.bM,if_pos e]
   exact e1.symm
  ·simp only[al.bM,if_neg e]
   rw[←e1,hR i hi j hj,←qb,←ym]
   exact dY fun k _=>by grind
 ·rw[FQ (by rw[h.m];exact hr) hp,h.jY]
theorem Rows.off(h:Rows A m w T)(c0 f:Nat→Rat){c:Nat→Rat}(hc:∀j,j≤w→c j=c0 j-aN m (fun i=>f i*T.A i j)):cL.nX A m w c0 c:=by
 obtain⟨R,hR⟩:=h.mul
 refine⟨fun k=>aN m (fun i=>f i*R i k),fun j hj=> ?_⟩
 rw[hc j hj]
 congr 1
 rw[dY (g:=fun i=>aN m (fun k=>f i*R i k*A k j)) (fun i hi=>by rw[hR i hi j hj,←qb];exact dY fun k _=>by grind),Cw]
 exact dY fun k _=>oY _ _ _
theorem Rows.K9(h:Rows A m w T){c0:Nat→Rat}(ho:cL.nX A m w c0 T.c){r s:Nat}(hr:r<m):cL.nX A m w c0 (T.bM r s).c:=by
 obtain⟨R,hR⟩:=h.mul
 obtain⟨l,hl⟩:=ho
 refine⟨fun k=>l k+T.c s*(R r k/T.A r s),fun j hj=> ?_⟩
 show T.c j-T.c s*(T.A r j/T.A r s)=_
 have e1:aN m (fun k=>R r k/T.A r s*A k j)=T.A r j/T.A r s:=by
  rw[hR r hr j hj,Rat.div_def,←oY]
  exact dY fun k _=>by grind
 have e2:aN m (fun k=>(l k+T.c s*(R r k/T.A r s))*A k j)=aN m (fun k=>l k*A k j)+T.c s*aN m (fun k=>R r k/T.A r s*A k j):=by
  rw[←qb,←FP]
  exact dY fun k _=>by grind
 rw[e2,e1,hl j hj]
 grind
theorem Rows.cost(h:Rows A m w T){c0:Nat→Rat}(ho:cL.nX A m w c0 T.c){x:Nat→Rat}(hx:T.lr x):T.cost x=aN (w+1) (fun j=>c0 j*x j):=by
 obtain⟨l,hl⟩:=ho
 unfold al.cost
 rw[h.n]
 have e1:aN (w+1) (fun j=>aN m (fun k=>l k*A k j)*x j)=0:=by
  rw[dY (g:=fun j=>aN m (fun k=>l k*(A k j*x j))) (fun j _=>by rw[←oY];exact dY fun k _=>by grind),Cw]
  refine kI fun k hk=> ?_
  rw[qb,(h.jY x).1 hx k hk];grind
 rw[dY (g:=fun j=>c0 j*x j-aN m (fun k=>l k*A k j)*x j) (fun j hj=>by rw[hl j (by omega)];grind),ym,e1]
 grind
end
def pt(T:al)(j:Nat):Rat:=if j=T.n then -1 else aN T.m (fun i=>if T.B i=j then T.A i T.n else 0)
section
variable {T:al}
theorem La(h:T.WF)(j:Nat):T.pt j = - T.dir T.n j:=by
 unfold pt dir
 by_cases e:j=T.n
 ·rw[if_pos e,if_pos e,kI]
  ·grind
  ·intro i hi
   have:=h.lt i hi
   rw[if_neg (by omega)]
 ·rw[if_neg e,if_neg e];grind
theorem F8(h:T.WF):T.lr T.pt:=fun i hi=>by
 have:=rB h T.n (Nat.le_refl _) i hi
 rw[dY (g:=fun j=> - (T.A i j*T.dir T.n j)) (fun j _=>by rw[La h];grind),Cu,this];grind
theorem Lb(h:T.WF):T.cost T.pt = - T.c T.n:=by
 have:=vY h T.n (Nat.le_refl _)
 unfold cost at this⊢
 rw[dY (g:=fun j=> - (T.c j*T.dir T.n j)) (fun j _=>by rw[La h];grind),Cu,this]
theorem Lc(h:T.WF){i:Nat}(hi:i<T.m):T.pt (T.B i)=T.A i T.n:=by
 have:=h.lt i hi
 unfold pt
 rw[if_neg (by omega),nU hi,if_pos rfl]
 intro k hk a4
 rw[if_neg (fun e=>a4 (h.inj hk hi e))]
theorem Ld(hf:T.iM){j:Nat}(hj:j<T.n):0≤T.pt j:=by
 unfold pt
 rw[if_neg (by omega)]
 refine yn fun i hi=> ?_
 split
 ·exact hf i hi
 ·exact Rat.le_refl
theorem Le{j:Nat}(hj:j<T.n)(h:∀i,i<T.m→T.B i=j→T.A i T.n=0):T.pt j=0:=by
 unfold pt
 rw[if_neg (by omega)]
 refine kI fun i hi=> ?_
 split
 ·rename_i e;exact h i hi e
 ·rfl
theorem Lf{s:Nat}(h:∀i,i<T.m→T.A i s≤0)(j:Nat):0≤T.dir s j:=by
 unfold dir
 have h1:0≤aN T.m (fun i=> - (if T.B i=j then T.A i s else 0)):=yn fun i hi=>by
  split
  ·have:=h i hi;grind
  ·grind
 rw[Cu]at h1
 split <;> grind
theorem TF(h:T.WF){s:Nat}(hs:s<T.n):T.dir s T.n=0:=by
 unfold dir
 rw[if_neg (by omega),kI]
 ·grind
 ·intro i hi
  have:=h.lt i hi
  rw[if_neg (by omega)]
theorem TH{s j:Nat}(hj:j≠s)(h:∀i,i<T.m→T.B i=j→T.A i s=0):T.dir s j=0:=by
 unfold dir
 rw[if_neg hj,kI]
 ·grind
 ·intro i hi
  split
  ·rename_i e;exact h i hi e
  ·rfl
end
def gO(u w j:Nat):Rat:=if u≤j∧j<w then 1 else 0
theorem Lg(u w j:Nat):0≤gO u w j:=by
 unfold gO;split <;> grind
theorem TI{u w j:Nat}(h:j<u):gO u w j=0:=by
 unfold gO;rw[if_neg (by omega)]
theorem Lh(u w:Nat):gO u w w=0:=by
 unfold gO;rw[if_neg (by omega)]
section
variable {A:Nat→Nat→Rat} {m w u:Nat} {T:al}
theorem TJ(hW:T.WF)(h:Rows A m w T)(ho:cL.nX A m w (gO u w) T.c){s:Nat}(hs:s<w)(fO:T.c s<0)(hA:∀i,i<T.m→T.A i s≤0):False:=by
 have h1:=vY hW s (by rw[h.n];omega)
 rw[h.cost ho (rB hW s (by rw[h.n];omega))]at h1
 have h2:0≤aN (w+1) (fun j=>gO u w j*T.dir s j):=yn fun j _=>Rat.mul_nonneg (Lg u w j) (Lf hA j)
 grind
theorem TK{n k:Nat}(f:Nat→Rat)(h:∀i,i<n→0≤f i)(hk:k<n):f k≤aN n f:=by
 induction n with
 | zero=>omega
 | succ n ih=>
  rw[eG]
  have h0:=h n (by omega)
  by_cases e:k=n
  ·subst e
   have:0≤aN k f:=yn fun i hi=>h i (by omega)
   grind
  ·have:=ih (fun i hi=>h i (by omega)) (by omega)
   grind
theorem TM(hW:T.WF)(hF:T.iM)(h:Rows A m w T)(ho:cL.nX A m w (gO u w) T.c)(hv:0≤T.c w):T.c w=0∧∀i,i<T.m→u≤T.B i→T.A i T.n=0:=by
 have h1:=Lb hW
 rw[h.cost ho (F8 hW),h.n]at h1
 have h0:∀j,j<w+1→0≤gO u w j*T.pt j:=fun j hj=>by
  by_cases e:j=w
  ·subst e;rw[Lh];grind
  ·exact Rat.mul_nonneg (Lg u w j) (Ld hF (by rw[h.n];omega))
 have h2:=yn h0
 refine⟨by grind,fun i hi hu=> ?_⟩
 have a8:=hW.lt i hi
 have h3:=TK _ h0 (k:=T.B i) (by rw[h.n]at a8;omega)
 have Li:=a8
 rw[h.n]at Li
 rw[Lc hW hi]at h3
 have e:gO u w (T.B i)=1:=by unfold gO;rw[if_pos ⟨hu,Li⟩]
 rw[e]at h3
 have:=hF i hi
 grind
end
structure Clean(u k:Nat)(T:al):Prop where
 zero:∀i,i<T.m→u≤T.B i→T.A i T.n=0
 row:∀i,i<k→i<T.m→u≤T.B i→∀j,j<u→T.A i j=0
section
variable {u k:Nat} {T:al}
theorem Clean.start(h:∀i,i<T.m→u≤T.B i→T.A i T.n=0):Clean u 0 T:=⟨h,fun i hi=>by omega⟩
theorem Clean.skip(h:Clean u k T)(hk:T.B k<u∨∀j,j<u→T.A k j=0):Clean u (k+1) T:=by
 refine⟨h.zero,fun i hi hm hu=> ?_⟩
 by_cases e:i=k
 ·subst e
  rcases hk with hk | hk
  ·omega
  ·exact hk
 ·exact h.row i (by omega) hm hu
theorem Clean.TN(h:Clean u k T)(hk:k<T.m)(hu:u≤T.B k){s:Nat}(hs:s<u):Clean u (k+1) (T.bM k s):=by
 have hz:=h.zero k hk hu
 refine⟨fun i hi hb=> ?_,fun i hi hm hb j hj=> ?_⟩
 ·have eA:i<T.m:=hi
  simp only[al.bM]at hb⊢
  by_cases e:i=k
  ·rw[if_pos e]at hb;omega
  ·rw[if_neg e]at hb⊢
   rw[h.zero i eA hb,hz,Rat.div_def];grind
 ·have aS:i<T.m:=hm
  simp only[al.bM]at hb⊢
  by_cases e:i=k
  ·rw[if_pos e]at hb;omega
  ·rw[if_neg e]at hb⊢
   rw[h.row i (by omega) aS hb j hj,h.row i (by omega) aS hb s hs];grind
theorem Clean.ej(h:Clean u k T)(hF:T.iM)(hk:k<T.m)(hu:u≤T.B k)(s:Nat):(T.bM k s).iM:=fun i hi=>by
 have eA:i<T.m:=hi
 have hz:=h.zero k hk hu
 have h1:=hF i eA
 show 0≤(if i=k then T.A k T.n/T.A k s else T.A i T.n-T.A i s*(T.A k T.n/T.A k s))
 rw[hz]
 split
 ·rw[Rat.div_def];grind
 ·rw[Rat.div_def];grind
theorem Clean.TO(h:Clean u T.m T){r s:Nat}(hb:T.oZ u r s):Clean u (T.bM r s).m (T.bM r s):=by
 have hr:T.B r<u:=by
  false_or_by_contra
  have:=h.row r hb.rm hb.rm (by omega) s hb.su
  have:=hb.pos
  grind
 have hs:=hb.su
 refine⟨fun i hi hu=> ?_,fun i _ hi hu j hj=> ?_⟩
 ·have eA:i<T.m:=hi
  simp only[al.bM]at hu⊢
  by_cases e:i=r
  ·rw[if_pos e]at hu;omega
  ·rw[if_neg e]at hu⊢
   rw[h.zero i eA hu,h.row i eA eA hu s hs];grind
 ·have eA:i<T.m:=hi
  simp only[al.bM]at hu⊢
  by_cases e:i=r
  ·rw[if_pos e]at hu;omega
  ·rw[if_neg e]at hu⊢
   rw[h.row i eA eA hu j hj,h.row i eA eA hu s hs];grind
end
structure yu(p:LP)(w:Nat)(plus:Nat→Nat)(minus slack:Nat→Option Nat)(c c0:Nat→Rat):Prop where
 pl:∀j,j<p.n→c0 (plus j)=c j
 mi:∀j,j<p.n→∀k,minus j=some k→c0 k = - c j
 sl:∀i,i<p.m→∀k,slack i=some k→c0 k=0
 last:c0 w=0
section
variable {p:LP} {A:Nat→Nat→Rat} {w u:Nat} {plus:Nat→Nat} {minus slack:Nat→Option Nat} {unit:Nat→Nat} {sg c c0:Nat→Rat} {T:al}
theorem Lj(L:cL p A w u plus minus slack unit sg)(hc:yu p w plus minus slack c c0){z:Nat→Rat}(ha:∀j,u≤j→j<w→z j=0):
  aN (w+1) (fun j=>c0 j*z j)=bL p.n c (cL.vec plus minus z):=by
 rw[eG,hc.last,cL.K7 L.uw _ (fun j h1 h2=>by rw[ha j h1 h2];grind),L.sum]
 have h1:aN p.m (fun i=>eU (fun j=>c0 j*z j) (slack i))=0:=kI fun i hi=>by
  cases hs:slack i with
  | none=>rfl
  | some k=>simp only[eU];rw[hc.sl i hi k hs];grind
 rw[h1]
 unfold bL cL.vec
 have h2:aN p.n (fun j=>c0 (plus j)*z (plus j)+eU (fun j=>c0 j*z j) (minus j))=aN p.n (fun j=>c j*(z (plus j)-eU z (minus j))):=dY fun j hj=>by
  rw[hc.pl j hj]
  cases hm:minus j with
  | none=>simp only[eU];grind
  | some k=>simp only[eU];rw[hc.mi j hj k hm];grind
 rw[h2];grind
theorem Lk(hC:Clean u T.m T){j:Nat}(h1:u≤j)(h2:j<T.n):T.pt j=0:=Le h2 fun i hi e=>hC.zero i hi (by omega)
theorem Ll(L:cL p A w u plus minus slack unit sg)(hW:T.WF)(hF:T.iM)(h:Rows A p.m w T)(hC:Clean u T.m T):p.ft 1 (cL.vec plus minus T.pt):=by
 have hu:=L.uw
 refine L.meets ((h.jY _).1 (F8 hW)) ?_ (fun j hj=>Ld hF (by rw[h.n];omega)) (fun j h1 h2=>Lk hC h1 (by rw[h.n];omega))
 unfold pt
 rw[if_pos h.n.symm]
theorem Lm(L:cL p A w u plus minus slack unit sg)(hW:T.WF)(h:Rows A p.m w T)(hC:Clean u T.m T)(hc:yu p w plus minus slack c c0)(ho:cL.nX A p.m w c0 T.c):
  bL p.n c (cL.vec plus minus T.pt) = - T.c w:=by
 rw[←Lj L hc (fun j h1 h2=>Lk hC h1 (by rw[h.n];omega)),←h.cost ho (F8 hW),Lb hW,h.n]
theorem TP(L:cL p A w u plus minus slack unit sg)(hW:T.WF)(hF:T.iM)(h:Rows A p.m w T)(hC:Clean u T.m T)(hc:yu p w plus minus slack c c0)(ho:cL.nX A p.m w c0 T.c)(hn:∀j,j<u→0≤T.c j):
  p.qf c (cL.vec plus minus T.pt) (fun i=>sg i*(c0 (unit i)-T.c (unit i))):=by
 have hd:=cL.F7 L ho
 refine⟨Ll L hW hF h hC,cL.K8 L ho (fun i hi k hk=>hc.sl i hi k hk) hn,fun j hj=>⟨?_,fun hf=> ?_⟩,?_⟩
 ·have h1:=L.pl j hj
  rw[(hd.1 j hj).1,hc.pl j hj]
  have:=hn _ h1.1
  grind
 ·obtain⟨k,hk⟩:=L.F6 j hj hf
  have h1:=(L.mi j hj).2 k hk
  rw[(hd.1 j hj).2 k hk,hc.mi j hj k hk]
  have:=hn _ h1.1
  grind
 ·rw[hd.2.1,hc.last,Lm L hW h hC hc ho];grind
theorem TQ(L:cL p A w u plus minus slack unit sg)(hW:T.WF)(hF:T.iM)(h:Rows A p.m w T)(hC:Clean u T.m T)(hc:yu p w plus minus slack c c0)(ho:cL.nX A p.m w c0 T.c){s:Nat}(hs:s<u)(fO:T.c s<0)
  (hA:∀i,i<T.m→T.A i s≤0):p.rF c (cL.vec plus minus T.pt) (cL.vec plus minus (T.dir s)):=by
 have hu:=L.uw
 have nW:s<T.n:=by rw[h.n];omega
 have ha:∀j,u≤j→j<w→T.dir s j=0:=fun j h1 h2=>TH (by omega) fun i hi e=>hC.row i hi hi (by omega) s hs
 refine⟨Ll L hW hF h hC,L.meets ((h.jY _).1 (rB hW s (by omega))) ?_ (fun j _=>Lf hA j) ha,?_⟩
 ·have:=TF hW nW
  rw[h.n]at this
  rw[this];grind
 ·rw[←Lj L hc ha,←h.cost ho (rB hW s (by omega)),vY hW s (by omega)]
  exact fO
end
end al
end Lp
namespace Lp
structure Prg where
 free:List Bool
 rows:List (List Rat×Int×Rat)
def fn(l:List Rat)(j:Nat):Rat:=l.getD j 0
theorem jl{l:List Rat}{j:Nat}{q:Rat}(h:l[j]? = some q):fn l j=q:=by simp[fn,List.getD,h]
theorem Ln{l:List Rat}{j:Nat}(h:l.length≤j):fn l j=0:=by simp[fn,List.getD,List.getElem?_eq_none h]
def Prg.row(p:Prg)(i:Nat):List Rat×Int×Rat:=p.rows.getD i ([],0,0)
theorem Prg.l7{p:Prg}{i:Nat}{r:List Rat×Int×Rat}(h:p.rows[i]? = some r):p.row i=r:=by simp[Prg.row,List.getD,h]
def Prg.lp(p:Prg):LP:=⟨p.free.length,p.rows.length,fun j=>p.free.getD j false,fun i j=>fn (p.row i).1 j,fun i=>(p.row i).2.1,fun i=>(p.row i).2.2⟩
theorem Prg.CB{p:Prg}{j:Nat}{b:Bool}(h:p.free[j]? = some b):p.lp.free j=b:=by simp[Prg.lp,List.getD,h]
def F9(n:Nat)(r:List Rat×Int×Rat):Prop:=r.1.length=n∧(r.2.1=1∨r.2.1=2∨r.2.1=3)
structure Prg.Ok(p:Prg):Prop where
 eZ:p.free.length≤400
 rows:p.rows.length≤800
 row:∀(i:Nat)(r:List Rat×Int×Rat),p.rows[i]? = some r→F9 p.free.length r
theorem Prg.Ok.valid{p:Prg}(h:p.Ok):p.lp.Valid:=fun i hi=>by
 have eA:i<p.rows.length:=hi
 have:=(h.row i _ (List.getElem?_eq_getElem eA)).2
 show (p.row i).2.1=1∨(p.row i).2.1=2∨(p.row i).2.1=3
 rwa [Prg.l7 (List.getElem?_eq_getElem eA)]
structure tL(p:Prg)(x:List Rat):Prop where
 ok:p.Ok
 len:x.length=p.free.length
 meets:p.lp.ft 1 (fn x)
structure yw(p:Prg)(c x y:List Rat):Prop where
 ej:tL p x
 yy:c.length=p.free.length
 Ga:y.length=p.rows.length
 cert:p.lp.qf (fn c) (fn x) (fn y)
structure CC(p:Prg)(y:List Rat):Prop where
 ok:p.Ok
 Ga:y.length=p.rows.length
 cert:p.lp.rE (fn y)
structure CD(p:Prg)(c x r:List Rat):Prop where
 ej:tL p x
 yy:c.length=p.free.length
 jD:r.length=p.free.length
 cert:p.lp.rF (fn c) (fn x) (fn r)
structure mX where
 status:Int
 value:Rat
 x:List Rat
 j0:List Rat
 ik:List Rat
def fc(p:Prg)(c:List Rat)(s:mX):Prop:=
 (s.status=1∧s.ik = []∧yw p c s.x s.j0∧s.value=bL p.free.length (fn c) (fn s.x))∨
 (s.status=2∧s.value=0∧s.x = []∧s.ik = []∧c.length=p.free.length∧CC p s.j0)∨
 (s.status=3∧s.value=0∧s.j0 = []∧CD p c s.x s.ik)
theorem fc.Gb{p:Prg}{c:List Rat}{s:mX}(h:fc p c s):(s.status=1∧p.lp.qg (fn c) s.value)∨(s.status=2∧p.lp.yr∧s.value=0)∨(s.status=3∧p.lp.yt (fn c)∧s.value=0):=by
 rcases h with ⟨h1,_,h2,h3⟩ | ⟨h1,h2,_,_,_,h3⟩ | ⟨h1,h2,_,h3⟩
 ·exact .inl ⟨h1,by rw[h3];exact h2.cert.K5 h2.ej.ok.valid⟩
 ·exact .inr (.inl ⟨h1,h3.cert.isInf h3.ok.valid,h2⟩)
 ·exact .inr (.inr ⟨h1,h3.cert.Tz,h2⟩)
theorem fc.ok{p:Prg}{c:List Rat}{S:mX}(h:fc p c S):p.Ok∧c.length=p.free.length:=by
 rcases h with ⟨_,_,h,_⟩ | ⟨_,_,_,_,h1,h⟩ | ⟨_,_,_,h⟩
 ·exact⟨h.ej.ok,h.yy⟩
 ·exact⟨h.ok,h1⟩
 ·exact⟨h.ej.ok,h.yy⟩
theorem fc.Gc{p:Prg}{c:List Rat}{S:mX}(h:fc p c S)(e:S.status=1):S.ik = []∧yw p c S.x S.j0∧S.value=bL p.free.length (fn c) (fn S.x):=by
 rcases h with ⟨_,h⟩ | ⟨h1,_⟩ | ⟨h1,_⟩
 ·exact h
 ·omega
 ·omega
theorem fc.CE{p:Prg}{c:List Rat}{S:mX}(h:fc p c S)(e:S.status=2):S.value=0∧S.x = []∧S.ik = []∧c.length=p.free.length∧CC p S.j0:=by
 rcases h with ⟨h1,_⟩ | ⟨_,h⟩ | ⟨h1,_⟩
 ·omega
 ·exact h
 ·omega
theorem fc.Gd{p:Prg}{c:List Rat}{S:mX}(h:fc p c S)(e:S.status=3):S.value=0∧S.j0 = []∧CD p c S.x S.ik:=by
 rcases h with ⟨h1,_⟩ | ⟨h1,_⟩ | ⟨_,h⟩
 ·omega
 ·omega
 ·exact h
end Lp
namespace Go.au
open Go.Proofs Num
theorem TR(p q:Rat):((p.num*(q.den:Int)+q.num*(p.den:Int):Int):Rat)/(((p.den:Int)*(q.den:Int):Int):Rat)=p+q:=by
 have h1:=oX p
 have h2:=oX q
 have h3:=vU p
 have h4:=vU q
 rw[Rat.intCast_add,Rat.intCast_mul,Rat.intCast_mul,Rat.intCast_mul]
 grind
theorem TS(p q:Rat):((p.num*q.num:Int):Rat)/(((p.den:Int)*(q.den:Int):Int):Rat)=p*q:=by
 have h1:=oX p
 have h2:=oX q
 have h3:=vU p
 have h4:=vU q
 rw[Rat.intCast_mul,Rat.intCast_mul]
 grind
theorem TT{q:Rat}(h:q≠0):((q.num:Int):Rat)≠0:=fun e=>h (by
 have:q.num=0:=by exact_mod_cast e
 exact Rat.num_eq_zero.1 this)
theorem Lo(p:Rat){q:Rat}(h:q≠0):((p.num*(q.den:Int):Int):Rat)/(((p.den:Int)*q.num:Int):Rat)=p/q:=by
 have h1:=oX p
 have h2:=oX q
 have h3:=vU p
 have h4:=vU q
 have h5:=TT h
 rw[Rat.intCast_mul,Rat.intCast_mul]
 grind
theorem TU(p:Rat){q:Rat}(h:q≠0):((-p.num*(q.den:Int):Int):Rat)/((-(p.den:Int)*q.num:Int):Rat)=p/q:=by
 rw[←Lo p h,Int.neg_mul,Int.neg_mul,Rat.intCast_neg,Rat.intCast_neg]
 grind
theorem CF{H:Heap}{us vs:List Value}{p q:Rat}{N:Nat}(hu:aT H us p)(hv:aT H vs q)(h1:aC p≤N)(h2:aC q≤N)(hN:(N:Int)≤1099511627776):
 Fn Tryz.prog 91 #[.agg us.toArray,.agg vs.toArray] H (mV H (p+q)):=by
 obtain⟨n1,d1,b1,rfl,e8⟩:=id hu
 obtain⟨n2,d2,b2,rfl,cD⟩:=id hv;refine aU (args:=[_,_]) Tryz.func91 rfl rfl Tryz.ntmps91 rfl rfl fun w0=> ?_;refine ah [0,1] rfl ?_;refine ae (bR rfl rfl (bR rfl rfl (bG cN rfl (ab [2,3,4] ?_))));refine ao ?_
 cases lx:qa n1 d1 b1
 ·
  skip
  refine ae (aa 1 rfl (aq rfl rfl (kH) ?_));rintro v1 H1 ⟨e1,rfl⟩;rw[e1,lx];refine aa 4 rfl (ab [2,3,4,10] ?_);refine cP rfl (aw (ah [2,3,4] rfl ?_));refine bT .bN [0,2,1,3,4,5,6] follows (by kernel_rfl) ?_;refine aa 2 rfl (aI rfl rfl (mW hu) (fun _ _ h=>by first | exact h.le | exact h.1) ?_);rintro w1 G1 ⟨dy,bJ⟩;obtain⟨u1,x1,rfl,cW,di⟩:=id bJ;obtain⟨jg,jh,rfl,ji,jk⟩:=id cW;obtain⟨nP,nQ,rfl,nR,nS⟩:=id di;refine aI rfl rfl (mW (hv.le dy)) (fun _ _ h=>by first | exact h.le | exact h.1) ?_;rintro w2 G2 ⟨cG,bB⟩;obtain⟨u2,x2,rfl,dF,dL⟩:=id bB;obtain⟨kz,kA,rfl,kB,kC⟩:=id dF;obtain⟨kD,kE,rfl,kF,kG⟩:=id dL;refine aI rfl rfl (KC (N:=N) ((bJ.le cG).raw.mono h1) (bB.raw.mono h2) hN) (fun _ _ h=>by first | exact h.le | exact h.1) ?_;rintro w3 G3 ⟨j1,eV⟩;obtain⟨u3,x3,rfl,kK,fa⟩:=id eV;obtain⟨tM,tN,rfl,tO,tP⟩:=id kK;obtain⟨tQ,tR,rfl,tS,tT⟩:=id fa;refine aI rfl rfl (rA eV) (fun _ _ h=>by first | exact h.le | exact h.1) ?_;rintro w4 G4 ⟨hO,tU,rfl,cE⟩;obtain⟨n4,d4,b4,rfl,_⟩:=id cE;obtain⟨ti,aj,ak⟩:=a9;refine aO (.inl ⟨rfl,rfl⟩) rfl rfl rfl aj ak rfl rfl rfl (ab [4] ?_);obtain⟨bU,aK,aL⟩:=a9;refine ar ⟨.inr rfl,_,.agg rfl Tryz.underlying61 aK aL (.nil),?_⟩
  exact⟨((dy.trans cG).trans j1).trans hO,_,rfl,cE⟩
 ·
  skip
  cases gE:qa n2 d2 b2
  ·
   skip
   refine ae (aa 1 rfl (aq rfl rfl (kH) ?_));rintro v1 H1 ⟨e1,rfl⟩;rw[e1,lx];refine aa 2 rfl (aq rfl rfl (kH) ?_);rintro v1 H1 ⟨e1,rfl⟩;rw[e1,gE];refine aa 1 rfl (ab [2,3,4,10] ?_);refine cP rfl (aw (ah [2,3,4] rfl ?_));refine bT .bN [0,2,1,3,4,5,6] follows (by kernel_rfl) ?_;refine aa 2 rfl (aI rfl rfl (mW hu) (fun _ _ h=>by first | exact h.le | exact h.1) ?_);rintro w1 G1 ⟨dy,bJ⟩;obtain⟨u1,x1,rfl,cW,di⟩:=id bJ;obtain⟨jg,jh,rfl,ji,jk⟩:=id cW;obtain⟨nP,nQ,rfl,nR,nS⟩:=id di;refine aI rfl rfl (mW (hv.le dy)) (fun _ _ h=>by first | exact h.le | exact h.1) ?_;rintro w2 G2 ⟨cG,bB⟩;obtain⟨u2,x2,rfl,dF,dL⟩:=id bB;obtain⟨kz,kA,rfl,kB,kC⟩:=id dF;obtain⟨kD,kE,rfl,kF,kG⟩:=id dL;refine aI rfl rfl (KC (N:=N) ((bJ.le cG).raw.mono h1) (bB.raw.mono h2) hN) (fun _ _ h=>by first | exact h.le | exact h.1) ?_;rintro w3 G3 ⟨j1,eV⟩;obtain⟨u3,x3,rfl,kK,fa⟩:=id eV;obtain⟨tM,tN,rfl,tO,tP⟩:=id kK;obtain⟨tQ,tR,rfl,tS,tT⟩:=id fa;refine aI rfl rfl (rA eV) (fun _ _ h=>by first | exact h.le | exact h.1) ?_;rintro w4 G4 ⟨hO,tU,rfl,cE⟩;obtain⟨n4,d4,b4,rfl,_⟩:=id cE;obtain⟨ti,aj,ak⟩:=a9;refine aO (.inl ⟨rfl,rfl⟩) rfl rfl rfl aj ak rfl rfl rfl ?_
   refine ab [4] ?_;obtain⟨bU,aK,aL⟩:=a9;refine ar ⟨.inr rfl,_,.agg rfl Tryz.underlying61 aK aL (.nil),?_⟩;exact⟨((dy.trans cG).trans j1).trans hO,_,rfl,cE⟩
  obtain⟨rfl,k1,k2,k3⟩:=tJ.1 lx;obtain⟨rfl,k4,k5,k6⟩:=tJ.1 gE;obtain⟨-,rfl,rfl,-⟩:=e8.resolve_right (by rintro⟨ad,f,u,w,h,_⟩;cases h);obtain⟨-,rfl,rfl,-⟩:=cD.resolve_right (by rintro⟨ad,f,u,w,h,_⟩;cases h);have eS:=den_pos p;have e9:=den_pos q;have m1:=tH (a:=p.num) (b:=q.den) k1 k2 (by omega) k6;have m2:=tH (a:=q.num) (b:=p.den) k4 k5 (by omega) k3;have m3:=tH (a:=p.den) (b:=q.den) (by omega) k3 (by omega) k6;have m4:0<(p.den:Int)*(q.den:Int):=Int.mul_pos (by omega) (by omega);refine ae (aa 1 rfl (aq rfl rfl (kH) ?_));rintro v1 H1 ⟨e1,rfl⟩;rw[e1,lx];refine aa 2 rfl (aq rfl rfl (kH) ?_);rintro v1 H1 ⟨e1,rfl⟩;rw[e1,gE];refine aa 1 rfl (ab [2,3,4,10] ?_);refine cI rfl (ae (aa 4 rfl (gB rfl rfl ⟨by omega,by omega⟩ (aa 4 rfl (gB rfl rfl ⟨by omega,by omega⟩ (aJ rfl rfl ⟨by omega,by omega⟩ (aa 4 rfl (gB rfl rfl ⟨by omega,by omega⟩ (aq rfl rfl (Ct (by omega) (by omega) m4 (by omega)) ?_)))))))));rintro w1 G1 ⟨dy,yz,rfl,bJ⟩;rw[TR]at bJ;obtain⟨n1,d1,b1,rfl,_⟩:=id bJ;obtain⟨ti,aj,ak⟩:=a9;refine aO (.inl ⟨rfl,rfl⟩) rfl rfl rfl aj ak rfl rfl rfl (ab [4] ?_)
  obtain⟨bU,aK,aL⟩:=a9;refine ar ⟨.inr rfl,_,.agg rfl Tryz.underlying61 aK aL (.nil),?_⟩;exact⟨dy,_,rfl,bJ⟩
theorem qh{H:Heap}{us vs:List Value}{p q:Rat}{N:Nat}(hu:aT H us p)(hv:aT H vs q)(h1:aC p≤N)(h2:aC q≤N)(hN:(N:Int)≤1099511627776):
 Fn Tryz.prog 64 #[.agg us.toArray,.agg vs.toArray] H (mV H (p*q)):=by
 obtain⟨n1,d1,b1,rfl,e8⟩:=id hu
 obtain⟨n2,d2,b2,rfl,cD⟩:=id hv;refine aU (args:=[_,_]) Tryz.func64 rfl rfl Tryz.ntmps64 rfl rfl fun w0=> ?_;refine ah [0,1] rfl ?_;refine ae (bR rfl rfl (bR rfl rfl (bG cN rfl (ab [2,3,4] ?_))));refine ao ?_
 cases lx:qa n1 d1 b1
 ·
  skip
  refine ae (aa 1 rfl (aq rfl rfl (kH) ?_));rintro v1 H1 ⟨e1,rfl⟩;rw[e1,lx];refine aa 4 rfl (ab [2,3,4,10] ?_);refine cP rfl (aw (ah [2,3,4] rfl ?_));refine bT .bN [0,2,1,3,4,5,6] follows (by kernel_rfl) ?_;refine aa 2 rfl (aI rfl rfl (mW hu) (fun _ _ h=>by first | exact h.le | exact h.1) ?_);rintro w1 G1 ⟨dy,bJ⟩;obtain⟨u1,x1,rfl,cW,di⟩:=id bJ;obtain⟨jg,jh,rfl,ji,jk⟩:=id cW;obtain⟨nP,nQ,rfl,nR,nS⟩:=id di;refine aI rfl rfl (mW (hv.le dy)) (fun _ _ h=>by first | exact h.le | exact h.1) ?_;rintro w2 G2 ⟨cG,bB⟩;obtain⟨u2,x2,rfl,dF,dL⟩:=id bB;obtain⟨kz,kA,rfl,kB,kC⟩:=id dF;obtain⟨kD,kE,rfl,kF,kG⟩:=id dL;refine aI rfl rfl (KE (N:=N) ((bJ.le cG).raw.mono h1) (bB.raw.mono h2) hN) (fun _ _ h=>by first | exact h.le | exact h.1) ?_;rintro w3 G3 ⟨j1,eV⟩;obtain⟨u3,x3,rfl,kK,fa⟩:=id eV;obtain⟨tM,tN,rfl,tO,tP⟩:=id kK;obtain⟨tQ,tR,rfl,tS,tT⟩:=id fa;refine aI rfl rfl (rA eV) (fun _ _ h=>by first | exact h.le | exact h.1) ?_;rintro w4 G4 ⟨hO,tU,rfl,cE⟩;obtain⟨n4,d4,b4,rfl,_⟩:=id cE;obtain⟨ti,aj,ak⟩:=a9;refine aO (.inl ⟨rfl,rfl⟩) rfl rfl rfl aj ak rfl rfl rfl (ab [4] ?_);obtain⟨bU,aK,aL⟩:=a9;refine ar ⟨.inr rfl,_,.agg rfl Tryz.underlying61 aK aL (.nil),?_⟩
  exact⟨((dy.trans cG).trans j1).trans hO,_,rfl,cE⟩
 ·
  skip
  cases gE:qa n2 d2 b2
  ·
   skip
   refine ae (aa 1 rfl (aq rfl rfl (kH) ?_));rintro v1 H1 ⟨e1,rfl⟩;rw[e1,lx];refine aa 2 rfl (aq rfl rfl (kH) ?_);rintro v1 H1 ⟨e1,rfl⟩;rw[e1,gE];refine aa 1 rfl (ab [2,3,4,10] ?_);refine cP rfl (aw (ah [2,3,4] rfl ?_));refine bT .bN [0,2,1,3,4,5,6] follows (by kernel_rfl) ?_;refine aa 2 rfl (aI rfl rfl (mW hu) (fun _ _ h=>by first | exact h.le | exact h.1) ?_);rintro w1 G1 ⟨dy,bJ⟩;obtain⟨u1,x1,rfl,cW,di⟩:=id bJ;obtain⟨jg,jh,rfl,ji,jk⟩:=id cW;obtain⟨nP,nQ,rfl,nR,nS⟩:=id di;refine aI rfl rfl (mW (hv.le dy)) (fun _ _ h=>by first | exact h.le | exact h.1) ?_;rintro w2 G2 ⟨cG,bB⟩;obtain⟨u2,x2,rfl,dF,dL⟩:=id bB;obtain⟨kz,kA,rfl,kB,kC⟩:=id dF;obtain⟨kD,kE,rfl,kF,kG⟩:=id dL;refine aI rfl rfl (KE (N:=N) ((bJ.le cG).raw.mono h1) (bB.raw.mono h2) hN) (fun _ _ h=>by first | exact h.le | exact h.1) ?_;rintro w3 G3 ⟨j1,eV⟩;obtain⟨u3,x3,rfl,kK,fa⟩:=id eV;obtain⟨tM,tN,rfl,tO,tP⟩:=id kK;obtain⟨tQ,tR,rfl,tS,tT⟩:=id fa;refine aI rfl rfl (rA eV) (fun _ _ h=>by first | exact h.le | exact h.1) ?_;rintro w4 G4 ⟨hO,tU,rfl,cE⟩;obtain⟨n4,d4,b4,rfl,_⟩:=id cE;obtain⟨ti,aj,ak⟩:=a9;refine aO (.inl ⟨rfl,rfl⟩) rfl rfl rfl aj ak rfl rfl rfl ?_
   refine ab [4] ?_;obtain⟨bU,aK,aL⟩:=a9;refine ar ⟨.inr rfl,_,.agg rfl Tryz.underlying61 aK aL (.nil),?_⟩;exact⟨((dy.trans cG).trans j1).trans hO,_,rfl,cE⟩
  obtain⟨rfl,k1,k2,k3⟩:=tJ.1 lx;obtain⟨rfl,k4,k5,k6⟩:=tJ.1 gE;obtain⟨-,rfl,rfl,-⟩:=e8.resolve_right (by rintro⟨ad,f,u,w,h,_⟩;cases h);obtain⟨-,rfl,rfl,-⟩:=cD.resolve_right (by rintro⟨ad,f,u,w,h,_⟩;cases h);have eS:=den_pos p;have e9:=den_pos q;have m1:=tH (a:=p.num) (b:=q.num) k1 k2 k4 k5;have m3:=tH (a:=p.den) (b:=q.den) (by omega) k3 (by omega) k6;have m4:0<(p.den:Int)*(q.den:Int):=Int.mul_pos (by omega) (by omega);refine ae (aa 1 rfl (aq rfl rfl (kH) ?_));rintro v1 H1 ⟨e1,rfl⟩;rw[e1,lx];refine aa 2 rfl (aq rfl rfl (kH) ?_);rintro v1 H1 ⟨e1,rfl⟩;rw[e1,gE];refine aa 1 rfl (ab [2,3,4,10] ?_);refine cI rfl (ae (aa 4 rfl (gB rfl rfl ⟨by omega,by omega⟩ (aa 4 rfl (gB rfl rfl ⟨by omega,by omega⟩ (aq rfl rfl (Ct (by omega) (by omega) m4 (by omega)) ?_))))));rintro w1 G1 ⟨dy,yz,rfl,bJ⟩;rw[TS]at bJ;obtain⟨n1,d1,b1,rfl,_⟩:=id bJ;obtain⟨ti,aj,ak⟩:=a9;refine aO (.inl ⟨rfl,rfl⟩) rfl rfl rfl aj ak rfl rfl rfl (ab [4] ?_);obtain⟨bU,aK,aL⟩:=a9;refine ar ⟨.inr rfl,_,.agg rfl Tryz.underlying61 aK aL (.nil),?_⟩;exact⟨dy,_,rfl,bJ⟩
theorem o3{H:Heap}{us vs:List Value}{p q:Rat}{N:Nat}(hu:aT H us p)(hv:aT H vs q)(h1:aC p≤N)(h2:aC q≤N)(hN:(N:Int)≤1099511627776):
 Fn Tryz.prog 54 #[.agg us.toArray,.agg vs.toArray] H (mV H (p-q)):=by
 obtain⟨n1,d1,b1,rfl,e8⟩:=id hu
 obtain⟨n2,d2,b2,rfl,cD⟩:=id hv
 have nW:=vT q;refine aU (args:=[_,_]) Tryz.func54 rfl rfl Tryz.ntmps54 rfl rfl fun w0=> ?_;refine ah [0,1] rfl ?_;refine ae (bR rfl rfl (bR rfl rfl (bG cN rfl (ab [2,3,4] ?_))));refine bT .bN [0,1,2,3,4] follows (by kernel_rfl) ?_;refine aa 2 rfl (aI rfl rfl (vV hv (by omega)) (fun _ _ h=>by first | exact h.le | exact h.1) ?_);rintro w1 G1 ⟨dy,yz,rfl,bJ⟩;obtain⟨n1,d1,b1,rfl,_⟩:=id bJ;refine aI rfl rfl (CF (hu.le dy) bJ h1 (by omega) hN) (fun _ _ h=>by first | exact h.le | exact h.1) ?_;rintro w2 G2 ⟨cG,yl,rfl,bB⟩;rw[←Rat.sub_eq_add_neg]at bB;obtain⟨n2,d2,b2,rfl,_⟩:=id bB;obtain⟨ti,aj,ak⟩:=a9;refine aO (.inl ⟨rfl,rfl⟩) rfl rfl rfl aj ak rfl rfl rfl (ab [4] ?_);obtain⟨bU,aK,aL⟩:=a9;refine ar ⟨.inr rfl,_,.agg rfl Tryz.underlying61 aK aL (.nil),?_⟩;exact⟨dy.trans cG,_,rfl,bB⟩
theorem Lq{H:Heap}{us vs:List Value}{p q:Rat}{N:Nat}(hu:aT H us p)(hv:aT H vs q)(h1:aC p≤N)(h2:aC q≤N)(hN:(N:Int)≤1099511627776)(hq:q≠0):
 Fn Tryz.prog 62 #[.agg us.toArray,.agg vs.toArray] H (mV H (p/q)):=by
 obtain⟨n1,d1,b1,rfl,e8⟩:=id hu
 obtain⟨n2,d2,b2,rfl,cD⟩:=id hv;refine aU (args:=[_,_]) Tryz.func62 rfl rfl Tryz.ntmps62 rfl rfl fun w0=> ?_;refine ah [0,1] rfl ?_;refine ae (bR rfl rfl (bR rfl rfl (bG cN rfl (ab [2,3,4] ?_))));refine ao ?_
 cases lx:qa n1 d1 b1
 ·
  skip
  refine ae (aa 1 rfl (aq rfl rfl (kH) ?_));rintro v1 H1 ⟨e1,rfl⟩;rw[e1,lx];refine aa 4 rfl (ab [2,3,4,12] ?_);refine cP rfl (aw (ah [2,3,4] rfl ?_));refine bT .bN [0,2,1,3,4,5,6,7,8,9,10] follows (by kernel_rfl) ?_;refine aa 2 rfl (aI rfl rfl (mW hu) (fun _ _ h=>by first | exact h.le | exact h.1) ?_);rintro w1 G1 ⟨dy,bJ⟩;obtain⟨u1,x1,rfl,cW,di⟩:=id bJ;obtain⟨jg,jh,rfl,ji,jk⟩:=id cW;obtain⟨nP,nQ,rfl,nR,nS⟩:=id di;refine aI rfl rfl (mW (hv.le dy)) (fun _ _ h=>by first | exact h.le | exact h.1) ?_;rintro w2 G2 ⟨cG,bB⟩;obtain⟨u2,x2,rfl,dF,dL⟩:=id bB;obtain⟨kz,kA,rfl,kB,kC⟩:=id dF;obtain⟨kD,kE,rfl,kF,kG⟩:=id dL;refine aI rfl rfl (KF (N:=N) ((bJ.le cG).raw.mono h1) (bB.raw.mono h2) hN) (fun _ _ h=>by first | exact h.le | exact h.1) ?_;rintro w3 G3 ⟨j1,r3,rfl,eV⟩;obtain⟨u3,x3,rfl,kK,fa⟩:=id eV;obtain⟨tM,tN,rfl,tO,tP⟩:=id kK;obtain⟨tQ,tR,rfl,tS,tT⟩:=id fa;refine aa 3 rfl (bG eD rfl ?_);obtain⟨ti,aj,ak⟩:=bP;refine aO (.inl ⟨rfl,rfl⟩) rfl rfl rfl aj ak rfl rfl rfl (aa 1 rfl (ab [4,5] ?_));refine ae (aa 1 rfl (aq rfl rfl (rA eV) ?_))
  rintro w4 G4 ⟨hO,tU,rfl,cE⟩;obtain⟨n4,d4,b4,rfl,_⟩:=id cE;obtain⟨ti,aj,ak⟩:=a9;refine aO (.inl ⟨rfl,rfl⟩) rfl rfl rfl aj ak rfl rfl rfl (ab [4] ?_);obtain⟨bU,aK,aL⟩:=a9;refine ar ⟨.inr rfl,_,.agg rfl Tryz.underlying61 aK aL (.nil),?_⟩;exact⟨((dy.trans cG).trans j1).trans hO,_,rfl,cE⟩
 ·
  skip
  cases gE:qa n2 d2 b2
  ·
   skip
   refine ae (aa 1 rfl (aq rfl rfl (kH) ?_));rintro v1 H1 ⟨e1,rfl⟩;rw[e1,lx];refine aa 2 rfl (aq rfl rfl (kH) ?_);rintro v1 H1 ⟨e1,rfl⟩;rw[e1,gE];refine aa 1 rfl (ab [2,3,4,12] ?_);refine cP rfl (aw (ah [2,3,4] rfl ?_));refine bT .bN [0,2,1,3,4,5,6,7,8,9,10] follows (by kernel_rfl) ?_;refine aa 2 rfl (aI rfl rfl (mW hu) (fun _ _ h=>by first | exact h.le | exact h.1) ?_);rintro w1 G1 ⟨dy,bJ⟩;obtain⟨u1,x1,rfl,cW,di⟩:=id bJ;obtain⟨jg,jh,rfl,ji,jk⟩:=id cW;obtain⟨nP,nQ,rfl,nR,nS⟩:=id di;refine aI rfl rfl (mW (hv.le dy)) (fun _ _ h=>by first | exact h.le | exact h.1) ?_;rintro w2 G2 ⟨cG,bB⟩;obtain⟨u2,x2,rfl,dF,dL⟩:=id bB;obtain⟨kz,kA,rfl,kB,kC⟩:=id dF;obtain⟨kD,kE,rfl,kF,kG⟩:=id dL;refine aI rfl rfl (KF (N:=N) ((bJ.le cG).raw.mono h1) (bB.raw.mono h2) hN) (fun _ _ h=>by first | exact h.le | exact h.1) ?_;rintro w3 G3 ⟨j1,r3,rfl,eV⟩;obtain⟨u3,x3,rfl,kK,fa⟩:=id eV;obtain⟨tM,tN,rfl,tO,tP⟩:=id kK;obtain⟨tQ,tR,rfl,tS,tT⟩:=id fa;refine aa 3 rfl (bG eD rfl ?_);obtain⟨ti,aj,ak⟩:=bP;refine aO (.inl ⟨rfl,rfl⟩) rfl rfl rfl aj ak rfl rfl rfl (vr 1 ?_)
   refine ab [4,5] ?_;refine ae (aa 1 rfl (aq rfl rfl (rA eV) ?_));rintro w4 G4 ⟨hO,tU,rfl,cE⟩;obtain⟨n4,d4,b4,rfl,_⟩:=id cE;obtain⟨ti,aj,ak⟩:=a9;refine aO (.inl ⟨rfl,rfl⟩) rfl rfl rfl aj ak rfl rfl rfl (ab [4] ?_);obtain⟨bU,aK,aL⟩:=a9;refine ar ⟨.inr rfl,_,.agg rfl Tryz.underlying61 aK aL (.nil),?_⟩;exact⟨((dy.trans cG).trans j1).trans hO,_,rfl,cE⟩
  obtain⟨rfl,k1,k2,k3⟩:=tJ.1 lx;obtain⟨rfl,k4,k5,k6⟩:=tJ.1 gE;obtain⟨-,rfl,rfl,-⟩:=e8.resolve_right (by rintro⟨ad,f,u,w,h,_⟩;cases h);obtain⟨-,rfl,rfl,-⟩:=cD.resolve_right (by rintro⟨ad,f,u,w,h,_⟩;cases h);have eS:=den_pos p;have e9:=den_pos q;have hqn:q.num≠0:=fun e=>hq (Rat.num_eq_zero.1 e);have m1:=tH (a:=p.num) (b:=q.den) k1 k2 (by omega) k6;have m3:=tH (a:=p.den) (b:=q.num) (by omega) k3 k4 k5;refine ae (aa 1 rfl (aq rfl rfl (kH) ?_));rintro v1 H1 ⟨e1,rfl⟩;rw[e1,lx];refine aa 2 rfl (aq rfl rfl (kH) ?_);rintro v1 H1 ⟨e1,rfl⟩;rw[e1,gE];refine aa 1 rfl (ab [2,3,4,12] ?_);refine cI rfl (ao (ae (aa 3 rfl (ab [2,3,4,15] ?_))));refine az rfl (fun hb=> ?_) (fun hb=> ?_)
  ·
   have hb:q.num<0:=by simpa using hb
   have m4:0 < -(p.den:Int)*q.num:=by rw[Int.neg_mul,←Int.mul_neg];exact Int.mul_pos (by omega) (by omega)
   have e1: -p.num*(q.den:Int) = -(p.num*(q.den:Int)):=Int.neg_mul _ _;have e2: -(p.den:Int)*q.num = -((p.den:Int)*q.num):=Int.neg_mul _ _;refine ae (aa 2 rfl (vo rfl ⟨by omega,by omega⟩ (aa 2 rfl (gB rfl rfl ⟨by omega,by omega⟩ (aa 2 rfl (vo rfl ⟨by omega,by omega⟩ (aa 2 rfl (gB rfl rfl ⟨by omega,by omega⟩ (aq rfl rfl (Ct (by omega) (by omega) m4 (by omega)) ?_)))))))));rintro w1 G1 ⟨dy,yz,rfl,bJ⟩;rw[TU p hq]at bJ;obtain⟨n1,d1,b1,rfl,_⟩:=id bJ;obtain⟨ti,aj,ak⟩:=a9;refine aO (.inl ⟨rfl,rfl⟩) rfl rfl rfl aj ak rfl rfl rfl (ab [4] ?_);obtain⟨bU,aK,aL⟩:=a9;refine ar ⟨.inr rfl,_,.agg rfl Tryz.underlying61 aK aL (.nil),?_⟩;exact⟨dy,_,rfl,bJ⟩
  have hb:0<q.num:=by have:=of_decide_eq_false hb;omega
  have m4:0<(p.den:Int)*q.num:=Int.mul_pos (by omega) hb;refine aw (ah [2,3,4] rfl ?_);refine ae (aa 4 rfl (gB rfl rfl ⟨by omega,by omega⟩ (aa 4 rfl (gB rfl rfl ⟨by omega,by omega⟩ (aq rfl rfl (Ct (by omega) (by omega) m4 (by omega)) ?_)))));rintro w1 G1 ⟨dy,yz,rfl,bJ⟩;rw[Lo p hq]at bJ;obtain⟨n1,d1,b1,rfl,_⟩:=id bJ;obtain⟨ti,aj,ak⟩:=a9;refine aO (.inl ⟨rfl,rfl⟩) rfl rfl rfl aj ak rfl rfl rfl (ab [4] ?_);obtain⟨bU,aK,aL⟩:=a9;refine ar ⟨.inr rfl,_,.agg rfl Tryz.underlying61 aK aL (.nil),?_⟩;exact⟨dy,_,rfl,bJ⟩
end Go.au
