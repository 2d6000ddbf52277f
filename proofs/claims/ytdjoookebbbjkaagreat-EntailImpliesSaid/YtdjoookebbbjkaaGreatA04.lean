/- Part 4 of the proof: Num1, Lp, Sx, Sy, Prg, Num2. -/
import Derived.Test.YtdjoookebbbjkaaGreatA03
set_option linter.unusedVariables false
namespace Go.aq
open Go.Proofs Num
theorem qC:Tryz.prog.underlying 119=some (.pointer (Tryz.prog.pointee 119)):=by
 unfold Program.pointee;rw[Tryz.underlying119]
theorem tN{H:Heap}{g:Nat}{xs:List Value}{e i:Nat}{v:Value}(h:xs[i]? = some v):cell (ins H g (whole xs e)) ((⟨g,0,none⟩:Addr).add i)=some v:=by
 simp[cell,iu,ins,whole,h]
theorem KJ{H:Heap}{g:Nat}{x:Value}{xs:List Value}{e:Nat}:cell (ins H g (whole (x::xs) e)) ⟨g,0,none⟩=some x:=by
 simp[cell,ins,whole]
theorem KK{H:Heap}{ad:Addr}{a b c:Value}(h0:cell H ad=some a)(h1:cell H (ad.add 1)=some b)(h2:cell H (ad.add 2)=some c):∀(i:Nat)(v:Value),[a,b,c][i]? = some v→cell H (ad.add i)=some v:=by
 intro i v hv
 match i with
 | 0=>simp only[List.getElem?_cons_zero,Option.some.injEq]at hv;subst hv;simpa [Addr.add]using h0
 | 1=>simp only[List.getElem?_cons_succ,List.getElem?_cons_zero,Option.some.injEq]at hv;subst hv;exact h1
 | 2=>simp only[List.getElem?_cons_succ,List.getElem?_cons_zero,Option.some.injEq]at hv;subst hv;exact h2
 | n+3=>simp at hv
theorem Ba{a b:Int}(h1: -2147483647≤a)(h2:a≤2147483647)(h3: -2147483647≤b)(h4:b≤2147483647): -4611686014132420609≤a*b∧a*b≤4611686014132420609:=by
 have h5:(a*b).natAbs≤2147483647*2147483647:=by rw[Int.natAbs_mul];exact Nat.mul_le_mul (by omega) (by omega)
 omega
theorem tO(p:Rat):(p.num:Rat)/((p.den:Int):Rat)=p:=by
 have:=Rat.mkRat_self p
 rwa [Rat.mkRat_eq_div]at this
theorem DB(p:Rat):((p.den:Int):Rat)≠0:=fun e=>p.den_nz (by exact_mod_cast e)
theorem den_pos(p:Rat):0<p.den:=Nat.pos_of_ne_zero p.den_nz
theorem lowest{n d:Int}(hd:0<d):(((n:Rat)/(d:Rat)).num=n.tdiv (Nat.gcd n.natAbs d.natAbs:Nat))∧((n:Rat)/(d:Rat)).den=d.natAbs/Nat.gcd n.natAbs d.natAbs:=by
 have h0:decide (d<0)=false:=decide_eq_false (by omega)
 have mQ:0<d.natAbs:=by omega
 have e:=VB n d
 rw[h0]at e
 rw[←e,AV mQ,OE mQ]
 refine⟨?_,rfl⟩
 have hg:(Nat.gcd n.natAbs d.natAbs)∣n.natAbs:=Nat.gcd_dvd_left _ _
 by_cases hn:n<0
 ·rw[show (decide (n<0) != false)=true by simp[hn]]
  have e2:n = -(n.natAbs:Int):=by omega
  conv=>rhs;rw[e2,Int.neg_tdiv]
  simp[sg,Int.tdiv_eq_ediv_of_nonneg]
 ·rw[show (decide (n<0) != false)=false by simp[hn]]
  have e2:n=(n.natAbs:Int):=by omega
  conv=>rhs;rw[e2]
  simp[sg,Int.tdiv_eq_ediv_of_nonneg]
theorem afr{n:Int}{g:Nat}(h1: -9223372036854775807≤n)(h2:n≤9223372036854775807): -9223372036854775807≤n.tdiv g∧n.tdiv g≤9223372036854775807:=by
 have:(n.tdiv g).natAbs≤n.natAbs:=by
  rw[Int.natAbs_tdiv];exact Nat.div_le_self _ _
 omega
abbrev N3(n d:Int)(b:Option Addr):Value:= .agg #[.int .i64 n,.int .i64 d,.pointer b]
theorem wY(H:Heap){n:Int}(h1: -9223372036854775807≤n)(h2:n≤9223372036854775807):bQ H [.int .i64 n,.int .i64 1,.pointer none] (n:Rat):=
 ⟨_,_,_,rfl,.inl ⟨rfl,by simp,by simp,h1,h2,by decide⟩⟩
theorem wZ{H:Heap}{n:Int}:
 Fn Tryz.prog 122 #[.int .i64 n] H (j8 H (N3 n 1 none)):=by
 refine aY (args:=[_]) Tryz.func122 rfl rfl Tryz.ntmps122 rfl rfl fun w0=> ?_;refine ah [0] rfl ?_;refine ae (bm fh rfl (ab [0,2] ?_));refine ae (aa 1 rfl (di ag rfl fh rfl rfl ?_));obtain⟨ti,aj,ak⟩:=cL;refine aI (.inl ⟨rfl,rfl⟩) rfl rfl rfl aj ak rfl rfl rfl (ab [2] ?_);obtain⟨b8,aP,aQ⟩:=cL;refine az ⟨.inr rfl,_,.agg rfl Tryz.underlying121 aP aQ (.nil),?_⟩;exact⟨rfl,rfl⟩
theorem VX{H:Heap}{u:Value}{l:List Nat}(hu:jD H u l)(hl:Lt l)(h2:l.length≤2):
 Fn Tryz.prog 159 #[u] H (j8 H (.int .i64 (val l:Nat))):=by
 obtain⟨A,c,rfl,hc,hr⟩:=hu;refine aY (args:=[_]) Tryz.func159 rfl rfl Tryz.ntmps159 rfl rfl fun w0=> ?_;refine ah [0] rfl ?_;refine ae (aa 1 rfl (ab [0] ?_));refine ae (aa 1 rfl (ab [0,3] ?_));refine ao (ae (aa 2 rfl (cQ rfl rfl ⟨by omega,by omega⟩ (aa 1 rfl (ab [0,3,4] ?_)))));refine aE (fI (fun(k:Nat)=>k) (fun(k:Nat)=>put (put (put (emp) 0 (.val (.slice A l.length c))) 3 (.val (.int .i64 (val (l.drop k):Nat)))) 4 (.val (.int .i64 ((k:Int)-1)))) (fun(k:Nat) H'=>H'=H∧k≤l.length) l.length (⟨rfl,Nat.le_refl _⟩) (by simp only[List.drop_length];repeat (first | exact iN _ | refine dB rfl ?_ | refine dB (jb (by first | omega | (simp[val];done))) ?_)) ?_);rintro k H1 ⟨rfl,hk⟩;refine ao (ae (aa 2 rfl (ab [0,3,4,9] ?_)));refine aD rfl (fun hb=> ?_) (fun hb=> ?_)
 ·
  have hb:0<k:=by simp at hb;omega
  obtain⟨x,hx⟩:∃x,l[k-1]? = some x:=⟨_,List.getElem?_eq_getElem (by omega)⟩;have hxB:=hl.get hx
  have kX:val (l.drop (k-1))=x+B*val (l.drop k):=by
   obtain⟨iM,e⟩:=List.getElem?_eq_some_iff.1 hx;rw[List.drop_eq_getElem_cons iM,e,jC,show k-1+1=k by omega]
  have hvb:=vu (hl.drop k);have afs:B^(l.drop k).length≤B^1:=Nat.pow_le_pow_right mU (by rw[List.length_drop];omega)
  have amR:val (l.drop k)<1000000000:=by
   have:=Nat.lt_of_lt_of_le hvb afs
   rwa [Nat.pow_one,ck]at this
  rw[ck]at hxB kX;refine aw (ah [0,3,4] rfl ?_);refine ao (aE (aA rfl (aa 1 rfl (gZ rfl rfl ⟨by omega,by omega⟩ (aa 2 rfl (aS ag rfl rfl rfl rfl rfl (hr) (by rw[show ((k:Int)-1).toNat=k-1 by omega];exact dC hx) (by omega) (by omega) fun _=> ?_))))));refine dr ag rfl rfl rfl ⟨by omega,by omega⟩ (aF rfl rfl ⟨by omega,by omega⟩ (aa 1 rfl (au (ah [0,3,4] rfl ?_))));refine aA rfl (aa 1 rfl (cQ rfl rfl ⟨by omega,by omega⟩ (aa 1 rfl (au ?_))));exact⟨k-1,by omega,(by rw[kX];repeat (first | exact iN _ | refine dB rfl ?_ | refine dB (jb (by omega)) ?_)),rfl,by omega⟩
 ·
  have hb:k=0:=by simp at hb;omega
  subst hb;refine aU (ah [3] rfl ?_);refine ae (aa 2 rfl (ab [2] ?_));refine az ⟨.inr rfl,_,.tmp rfl (.nil),?_⟩;exact⟨rfl,rfl⟩
theorem yS{H:Heap}{v:Value}{q:Rat}(hv:bH H v q):
 Fn Tryz.prog 130 #[v] H (tM H q):=by
 obtain⟨u,w,rfl,hu,hw⟩:=id hv
 have KL:=hv
 unfold bH at KL
 obtain⟨f,hf⟩:∃f,f=decide (q.num<0):=⟨_,rfl⟩
 rw[←hf]at hv
 rw[←hf]
 obtain⟨A,c,rfl,hc,hr⟩:=id hu
 obtain⟨A',c',rfl,jA,dS⟩:=id hw;refine aY (args:=[_]) Tryz.func130 rfl rfl Tryz.ntmps130 rfl rfl fun w0=> ?_;refine ah [0] rfl ?_;refine ae (JX rfl rfl ?_);intro g hg;have hle:=Heap.bI (whole [.bool f,.slice A (al q.num.natAbs).length c,.slice A' (al q.den).length c'] 38) hg;refine bm fh rfl (ab [1,2] ?_);refine ao ?_
 by_cases h2:2<(al q.num.natAbs).length
 ·
  skip
  refine ae (aV ag rfl rfl rfl (aR ag rfl rfl rfl (tN rfl) (aa 1 rfl (aG true rfl rfl (oB (by omega)) (aa 6 rfl (ab [1,2,13] ?_))))));refine cI rfl (ae (di ag rfl fh rfl rfl ?_));obtain⟨ti,aj,ak⟩:=cL;refine aI (.inl ⟨rfl,rfl⟩) rfl rfl rfl aj ak rfl rfl rfl (ab [2] ?_);obtain⟨b8,aP,aQ⟩:=cL;refine az ⟨.inr rfl,_,.agg rfl Tryz.underlying121 aP aQ (.nil),?_⟩;exact⟨hle,_,rfl,0,0,some ⟨g,0,none⟩,rfl,.inr ⟨_,f,_,_,rfl,hv.le hle,KJ,tN rfl,tN rfl⟩⟩
 ·
  skip
  by_cases h3:2<(al q.den).length
  ·
   skip
   refine ae (aV ag rfl rfl rfl (aR ag rfl rfl rfl (tN rfl) (aa 1 rfl (aG false rfl rfl (kA (by omega)) (aa 1 rfl (aV ag rfl rfl rfl (aR ag rfl rfl rfl (tN rfl) (aa 1 rfl (aG true rfl rfl (oB (by omega)) (aa 1 rfl (ab [1,2,13] ?_)))))))))));refine cI rfl (ae (di ag rfl fh rfl rfl ?_));obtain⟨ti,aj,ak⟩:=cL;refine aI (.inl ⟨rfl,rfl⟩) rfl rfl rfl aj ak rfl rfl rfl (ab [2] ?_);obtain⟨b8,aP,aQ⟩:=cL;refine az ⟨.inr rfl,_,.agg rfl Tryz.underlying121 aP aQ (.nil),?_⟩;exact⟨hle,_,rfl,0,0,some ⟨g,0,none⟩,rfl,.inr ⟨_,f,_,_,rfl,hv.le hle,KJ,tN rfl,tN rfl⟩⟩
  skip
  refine ae (aV ag rfl rfl rfl (aR ag rfl rfl rfl (tN rfl) (aa 1 rfl (aG false rfl rfl (kA (by omega)) (aa 1 rfl (aV ag rfl rfl rfl (aR ag rfl rfl rfl (tN rfl) (aa 1 rfl (aG false rfl rfl (kA (by omega)) (aa 1 rfl (ab [1,2,13] ?_)))))))))));refine dd rfl (aw (ah [1,2] rfl ?_));have Gf:=jd.1 (show (al q.num.natAbs).length≤2 by omega);have tx:=jd.1 (show (al q.den).length≤2 by omega);rw[ck]at Gf tx;refine bN .bK [0,1,3,4,2,5,6,7,8] follows (by kernel_rfl) ?_;refine aV ag rfl rfl rfl (aR ag rfl rfl rfl (tN rfl) (aV ag rfl rfl rfl (aR ag rfl rfl rfl (tN rfl) (aW rfl rfl (VX (hu.le hle) (fR _).lt (by omega)) (fun _ _ h=>h.le) ?_))));rintro v1 H1 ⟨e1,rfl⟩;rw[e1,cU];refine aW rfl rfl (VX (hw.le hle) (fR _).lt (by omega)) (fun _ _ h=>h.le) ?_;rintro v1 H1 ⟨e1,rfl⟩;rw[e1,cU];refine di ag rfl fh rfl rfl (bm fh rfl ?_);obtain⟨ti,aj,ak⟩:=cL;refine aI (.inl ⟨rfl,rfl⟩) rfl rfl rfl aj ak rfl rfl rfl (ab [1,2,3] ?_);refine ao (ae (aV ag rfl rfl rfl ?_))
  refine aR ag rfl rfl rfl (KJ) (ab [2,3,23] ?_);refine aD rfl (fun hb=> ?_) (fun hb=> ?_)
  ·
   have hq:q.num<0:=by rw[hf]at hb;simpa using hb
   refine aA rfl (aa 2 rfl (tD rfl ⟨by omega,by omega⟩ (vr 1 ?_)));obtain⟨ti,aj,ak⟩:=qq;refine aI (.inr rfl) rfl rfl rfl aj ak rfl rfl rfl (au (ah [2,3] rfl ?_));refine ae (vr 1 ?_);obtain⟨ti,aj,ak⟩:=cL;refine aI (.inl ⟨rfl,rfl⟩) rfl rfl rfl aj ak rfl rfl rfl (ab [2] ?_);obtain⟨b8,aP,aQ⟩:=cL;refine az ⟨.inr rfl,_,.agg rfl Tryz.underlying121 aP aQ (.nil),?_⟩;refine⟨hle,_,rfl,-(q.num.natAbs:Int),(q.den:Int),none,rfl,.inl ⟨rfl,by omega,rfl,by omega,by omega,by omega⟩⟩
  have hq:¬q.num<0:=by rw[hf]at hb;simpa using hb
  refine aw (ah [2,3] rfl ?_);refine ae (vr 1 ?_);obtain⟨ti,aj,ak⟩:=cL;refine aI (.inl ⟨rfl,rfl⟩) rfl rfl rfl aj ak rfl rfl rfl (ab [2] ?_);obtain⟨b8,aP,aQ⟩:=cL;refine az ⟨.inr rfl,_,.agg rfl Tryz.underlying121 aP aQ (.nil),?_⟩;refine⟨hle,_,rfl,(q.num.natAbs:Int),(q.den:Int),none,rfl,.inl ⟨rfl,by omega,rfl,by omega,by omega,by omega⟩⟩
theorem OY{H:Heap}{v:Value}{q:Rat}{N:Nat}(hv:cW H v q N)(hN:(N:Int)≤1099511627776):
 Fn Tryz.prog 121 #[v] H (tM H q):=by
 obtain⟨bf,bu,bw,nL,nM,rfl,_⟩:=id hv;refine aY (args:=[_]) Tryz.func121 rfl rfl Tryz.ntmps121 rfl rfl fun w0=> ?_;refine ah [0] rfl ?_;refine ae (bZ rfl rfl (bm fh rfl (ab [1,2] ?_)));refine ae (aa 1 rfl (aB rfl rfl (VP hv hN) ?_));rintro w1 G1 ⟨fo,bX⟩;obtain⟨u1,x1,rfl,eS,fK⟩:=id bX;obtain⟨mu,my,rfl,mz,mA⟩:=id eS;obtain⟨tP,tQ,rfl,tR,tS⟩:=id fK;refine aB rfl rfl (yS bX) ?_;rintro w2 G2 ⟨dP,OZ,rfl,bS⟩;obtain⟨n2,d2,b2,rfl,_⟩:=id bS;obtain⟨ti,aj,ak⟩:=cL;refine aI (.inl ⟨rfl,rfl⟩) rfl rfl rfl aj ak rfl rfl rfl (ab [2] ?_);obtain⟨b8,aP,aQ⟩:=cL;refine az ⟨.inr rfl,_,.agg rfl Tryz.underlying121 aP aQ (.nil),?_⟩;exact⟨fo.trans dP,_,rfl,bS⟩
theorem sq{H:Heap}{vs:List Value}{q:Rat}(hv:bQ H vs q):
 Fn Tryz.prog 157 #[.agg vs.toArray] H (j7 H q):=by
 obtain⟨n,d,b,rfl,gM⟩:=id hv
 have cP:=fun ad f u w (h:bH H (.agg #[.bool f,u,w]) q)(_:b=some ad)=>h.raw;refine aY (args:=[_]) Tryz.func157 rfl rfl Tryz.ntmps157 rfl rfl fun w0=> ?_;refine ah [0] rfl ?_;refine ae (bZ rfl rfl (bm cj rfl (ab [1,2] ?_)));refine ao ?_
 rcases gM with ⟨rfl,hn,hd,h1,h2,h3⟩ | ⟨ad,f,u,w,rfl,tT,m7,jf,m0⟩
 ·
  skip
  refine ae (aa 2 rfl (yu qC rfl rfl (ab [1,2,5] ?_)));refine dd rfl (aw (ah [1,2] rfl ?_));refine ae (aa 4 rfl (aB rfl rfl (VO (by omega) (by omega) (by omega) (by omega)) ?_));rintro w1 G1 ⟨fo,bX⟩;obtain⟨u1,x1,rfl,eS,fK⟩:=id bX;obtain⟨mu,my,rfl,mz,mA⟩:=id eS;obtain⟨tP,tQ,rfl,tR,tS⟩:=id fK;rw[hn,hd,tO]at bX;obtain⟨ti,aj,ak⟩:=aX;refine aI (.inl ⟨rfl,rfl⟩) rfl rfl rfl aj ak rfl rfl rfl (ab [2] ?_);obtain⟨b8,aP,aQ⟩:=aX;refine az ⟨.inr rfl,_,.agg rfl Tryz.underlying38 aP aQ (.nil),?_⟩
  skip
  rw[hn,hd,tO];exact⟨fo,bX⟩
 ·
  obtain⟨u1,w1,Bb,eS,gE⟩:=id tT
  obtain⟨rfl,rfl,rfl⟩:f=decide (q.num<0)∧u=u1∧w=w1:=by simpa using Bb
  obtain⟨mu,my,rfl,mz,mA⟩:=id eS;obtain⟨Dm,Dn,rfl,Dp,Dq⟩:=id gE;refine ae (aa 2 rfl (yu qC rfl rfl (ab [1,2,5] ?_)));refine cI rfl (ae (aa 3 rfl (yw (vs:=[.bool _,_,_]) ag rfl rfl rfl (KK m7 jf m0) ?_)));obtain⟨ti,aj,ak⟩:=aX;refine aI (.inl ⟨rfl,rfl⟩) rfl rfl rfl aj ak rfl rfl rfl (ab [2] ?_);obtain⟨b8,aP,aQ⟩:=aX;refine az ⟨.inr rfl,_,.agg rfl Tryz.underlying38 aP aQ (.nil),?_⟩;exact⟨.refl _,tT⟩
theorem VY{H:Heap}{vs:List Value}{q:Rat}(hv:bQ H vs q)(hN:(aM q:Int)≤1099511627776):
 Fn Tryz.prog 95 #[.agg vs.toArray] H (j7 H q):=by
 obtain⟨n,d,b,rfl,gM⟩:=id hv
 have cP:=fun ad f u w (h:bH H (.agg #[.bool f,u,w]) q)(_:b=some ad)=>h.raw;refine aY (args:=[_]) Tryz.func95 rfl rfl Tryz.ntmps95 rfl rfl fun w0=> ?_;refine ah [0] rfl ?_;refine ae (bZ rfl rfl (bm cj rfl (ab [1,2] ?_)));refine ao ?_
 rcases gM with ⟨rfl,hn,hd,h1,h2,h3⟩ | ⟨ad,f,u,w,rfl,tT,m7,jf,m0⟩
 ·
  skip
  refine ae (aa 2 rfl (yu qC rfl rfl (ab [1,2,5] ?_)));refine dd rfl (aw (ah [1,2] rfl ?_));refine ae (aa 4 rfl (aB rfl rfl (VO (by omega) (by omega) (by omega) (by omega)) ?_));rintro w1 G1 ⟨fo,bX⟩;obtain⟨u1,x1,rfl,eS,fK⟩:=id bX;obtain⟨mu,my,rfl,mz,mA⟩:=id eS;obtain⟨tP,tQ,rfl,tR,tS⟩:=id fK;rw[hn,hd,tO]at bX;obtain⟨ti,aj,ak⟩:=aX;refine aI (.inl ⟨rfl,rfl⟩) rfl rfl rfl aj ak rfl rfl rfl (ab [2] ?_);obtain⟨b8,aP,aQ⟩:=aX;refine az ⟨.inr rfl,_,.agg rfl Tryz.underlying38 aP aQ (.nil),?_⟩
  skip
  rw[hn,hd,tO];exact⟨fo,bX⟩
 ·
  obtain⟨u1,w1,Bb,eS,gE⟩:=id tT
  obtain⟨rfl,rfl,rfl⟩:f=decide (q.num<0)∧u=u1∧w=w1:=by simpa using Bb
  obtain⟨mu,my,rfl,mz,mA⟩:=id eS;obtain⟨Dm,Dn,rfl,Dp,Dq⟩:=id gE;refine ae (aa 2 rfl (yu qC rfl rfl (ab [1,2,5] ?_)));refine cI rfl (ae (aa 3 rfl (yw (vs:=[.bool _,_,_]) ag rfl rfl rfl (KK m7 jf m0) (aB rfl rfl (VP tT.raw hN) ?_))));rintro w1 G1 ⟨fo,bX⟩;obtain⟨u1,x1,rfl,eS,fK⟩:=id bX;obtain⟨mu,my,rfl,mz,mA⟩:=id eS;obtain⟨tP,tQ,rfl,tR,tS⟩:=id fK;obtain⟨ti,aj,ak⟩:=aX;refine aI (.inl ⟨rfl,rfl⟩) rfl rfl rfl aj ak rfl rfl rfl (ab [2] ?_);obtain⟨b8,aP,aQ⟩:=aX;refine az ⟨.inr rfl,_,.agg rfl Tryz.underlying38 aP aQ (.nil),?_⟩;exact⟨fo,bX⟩
theorem aft{H:Heap}{n d:Int}{b:Option Addr}:
 Fn Tryz.prog 154 #[N3 n d b] H (fun v H'=>H'=H∧∃t,v = .bool t∧(t=true↔b=none∧-2147483647≤n∧n≤2147483647∧d≤2147483647)):=by
 refine aY (args:=[_]) Tryz.func154 rfl rfl Tryz.ntmps154 rfl rfl fun w0=> ?_;refine ah [0] rfl ?_;refine ae (bZ rfl rfl (aa 1 rfl (ab [1] ?_)))
 rcases b with _ | ad
 rotate_left
 ·
  skip
  refine ae (aa 2 rfl (Fy qC rfl rfl (aa 16 rfl (ab [2] ?_))));refine az ⟨.inr rfl,_,.tmp rfl (.nil),?_⟩;exact⟨rfl,_,rfl,by constructor <;> intro h <;> first | (cases h;done) | exact⟨rfl,h1,h2,h3⟩ | (obtain⟨h4,h5,h6,h7⟩:=h;first | (cases h4;done) | omega) | rfl⟩
 ·
  skip
  by_cases h1: -2147483647≤n
  ·
   skip
   by_cases h2:n≤2147483647
   ·
    skip
    by_cases h3:d≤2147483647
    ·
     skip
     refine ae (aa 2 rfl (Fy qC rfl rfl (aa 3 rfl (aG true rfl rfl (rW h1) (aa 4 rfl (aG true rfl rfl (rW h2) (aa 4 rfl (aG true rfl rfl (rW h3) (aa 2 rfl (ab [2] ?_))))))))));refine az ⟨.inr rfl,_,.tmp rfl (.nil),?_⟩;exact⟨rfl,_,rfl,by constructor <;> intro h <;> first | (cases h;done) | exact⟨rfl,h1,h2,h3⟩ | (obtain⟨h4,h5,h6,h7⟩:=h;first | (cases h4;done) | omega) | rfl⟩
    skip
    refine ae (aa 2 rfl (Fy qC rfl rfl (aa 3 rfl (aG true rfl rfl (rW h1) (aa 4 rfl (aG true rfl rfl (rW h2) (aa 4 rfl (aG false rfl rfl (AL (by omega)) (aa 2 rfl (ab [2] ?_))))))))));refine az ⟨.inr rfl,_,.tmp rfl (.nil),?_⟩;exact⟨rfl,_,rfl,by constructor <;> intro h <;> first | (cases h;done) | exact⟨rfl,h1,h2,h3⟩ | (obtain⟨h4,h5,h6,h7⟩:=h;first | (cases h4;done) | omega) | rfl⟩
   skip
   refine ae (aa 2 rfl (Fy qC rfl rfl (aa 3 rfl (aG true rfl rfl (rW h1) (aa 4 rfl (aG false rfl rfl (AL (by omega)) (aa 7 rfl (ab [2] ?_))))))));refine az ⟨.inr rfl,_,.tmp rfl (.nil),?_⟩;exact⟨rfl,_,rfl,by constructor <;> intro h <;> first | (cases h;done) | exact⟨rfl,h1,h2,h3⟩ | (obtain⟨h4,h5,h6,h7⟩:=h;first | (cases h4;done) | omega) | rfl⟩
  skip
  refine ae (aa 2 rfl (Fy qC rfl rfl (aa 3 rfl (aG false rfl rfl (AL (by omega)) (aa 12 rfl (ab [2] ?_))))));refine az ⟨.inr rfl,_,.tmp rfl (.nil),?_⟩;exact⟨rfl,_,rfl,by constructor <;> intro h <;> first | (cases h;done) | exact⟨rfl,h1,h2,h3⟩ | (obtain⟨h4,h5,h6,h7⟩:=h;first | (cases h4;done) | omega) | rfl⟩
def w9(n d:Int)(b:Option Addr):Bool:=b.isNone&&(decide (-2147483647≤n)&&(decide (n≤2147483647)&&decide (d≤2147483647)))
theorem Bc{n d:Int}{b:Option Addr}:w9 n d b=true↔b=none∧-2147483647≤n∧n≤2147483647∧d≤2147483647:=by
 simp[w9]
theorem oP{H:Heap}{n d:Int}{b:Option Addr}:Fn Tryz.prog 154 #[N3 n d b] H (j8 H (.bool (w9 n d b))):=
 aft.mono fun v H' ⟨h1,t,h2,h3⟩=>⟨h1,by rw[h2];congr 1;rw[Bool.eq_iff_iff,h3,Bc]⟩
theorem KM{H:Heap}{n d:Int}(h1: -9223372036854775807≤n)(h2:n≤9223372036854775807)(h3:0<d)(h4:d≤9223372036854775807):
 Fn Tryz.prog 155 #[.int .i64 n,.int .i64 d] H (tM H ((n:Rat)/(d:Rat))):=by
 have vD:=lowest (n:=n) h3;refine aY (args:=[_,_]) Tryz.func155 rfl rfl Tryz.ntmps155 rfl rfl fun w0=> ?_;refine ah [0,1] rfl ?_;refine ae (bm fh rfl (ab [0,1,4] ?_));refine ae (aa 2 rfl (tD rfl ⟨by omega,by omega⟩ (adp rfl rfl ?_)));rw[show (if -n>n then -n else n)=((n.natAbs:Nat):Int) by split <;> omega];refine aa 3 rfl (ab [0,1,4,5,6] ?_);refine ao (aE (fX (fun(a:Nat)(b:Nat)=>b) (fun(a:Nat)(b:Nat)=>put (put (put (put (put (emp) 0 (.val (.int .i64 n))) 1 (.val (.int .i64 d))) 4 (.box [.int .i64 0,.int .i64 0,.pointer none])) 5 (.val (.int .i64 (a:Int)))) 6 (.val (.int .i64 (b:Int)))) (fun(a:Nat)(b:Nat) H'=>H'=H∧Nat.gcd a b=Nat.gcd n.natAbs d.natAbs∧a≤9223372036854775807∧b≤9223372036854775807) n.natAbs d.natAbs (⟨rfl,rfl,by omega,by omega⟩) ar ?_));rintro a b H1 ⟨rfl,hg,ha,lz⟩;refine ao (ae (aa 2 rfl (ab [0,1,4,5,6,13] ?_)));refine aD rfl (fun hb=> ?_) (fun hb=> ?_)
 ·
  have hb:0<b:=by simp at hb;omega
  refine aw (ah [0,1,4,5,6] rfl ?_);refine aE (eK .bK [0,1,2,3,4,5] follows (by kernel_rfl) ?_);refine aa 3 rfl (mT rfl rfl (by omega) (by omega) (aa 2 rfl (au ?_)));exact⟨b,a%b,Nat.mod_lt a hb,ar,rfl,by rw[←hg,Nat.gcd_comm b,←Nat.gcd_rec,Nat.gcd_comm],lz,by have:=Nat.mod_lt a hb;omega⟩
 ·
  have hb:b=0:=by simp at hb;omega
  subst hb;rw[Nat.gcd_zero_right]at hg
  have ha0:0<a:=by rw[hg];exact Nat.gcd_pos_of_pos_right _ (by omega)
  have iZ:=afr (g:=a) h1 h2;have jN:(d/(a:Int))≤d∧0≤d/(a:Int):=⟨Int.ediv_le_self _ (by omega),Int.ediv_nonneg (by omega) (by omega)⟩;refine aU (ah [0,1,4,5] rfl ?_);refine bN .bK [0,1,2,3,4,5,6,7] follows (by kernel_rfl) ?_;refine aa 2 rfl (UQ rfl rfl (by omega) ⟨by omega,by omega⟩ (aa 2 rfl (lS rfl rfl (by omega) (by omega) ⟨by omega,by omega⟩ (di ag rfl fh rfl rfl ?_))));obtain⟨ti,aj,ak⟩:=cL;refine aI (.inl ⟨rfl,rfl⟩) rfl rfl rfl aj ak rfl rfl rfl (ab [4] ?_);obtain⟨b8,aP,aQ⟩:=cL;refine az ⟨.inr rfl,_,.agg rfl Tryz.underlying121 aP aQ (.nil),?_⟩;rw[←hg]at vD;refine⟨.refl _,_,rfl,n.tdiv a,d/(a:Int),none,rfl,.inl ⟨rfl,vD.1.symm,?_,iZ.1,iZ.2,by omega⟩⟩;rw[vD.2]
  have e:d=(d.natAbs:Int):=by omega
  rw[e,Int.natAbs_natCast];rfl
theorem tU{H:Heap}{vs:List Value}{q:Rat}(hv:bQ H vs q)(hN:(aM q:Int)≤1099511627776):
 Fn Tryz.prog 87 #[.agg vs.toArray] H (fun v H'=>Heap.le H H'∧v = .int .i64 (eY q)):=by
 obtain⟨n,d,b,rfl,gM⟩:=id hv
 have cP:=fun ad f u w (h:bH H (.agg #[.bool f,u,w]) q)(_:b=some ad)=>h.raw
 have hs:=VU q;refine aY (args:=[_]) Tryz.func87 rfl rfl Tryz.ntmps87 rfl rfl fun w0=> ?_;refine ah [0] rfl ?_;refine ae (bZ rfl rfl (aa 1 rfl (ab [1] ?_)));refine ao (aE ?_)
 rcases gM with ⟨rfl,hn,hd,h1,h2,h3⟩ | ⟨ad,f,u,w,rfl,tT,m7,jf,m0⟩
 ·
  skip
  refine ae (aa 2 rfl (yu qC rfl rfl (aa 1 rfl (ab [1,3] ?_))));refine dd rfl (ae (aa 4 rfl (ab [1,12] ?_)));refine aD rfl (fun hb=> ?_) (fun hb=> ?_)
  ·
   have hb:n<0:=by simpa using hb
   rw[if_neg (by omega),decide_eq_true (by omega)]at hs;refine ae (aa 1 rfl (ab [2] ?_));refine az ⟨.inr rfl,_,.tmp rfl (.nil),?_⟩;exact⟨.refl _,by rw[hs];rfl⟩
  ·
   have hb:0≤n:=by simpa using hb
   refine ae (aa 4 rfl (ab [16] ?_));refine aD rfl (fun hb=> ?_) (fun hb=> ?_)
   ·
    have hb:0<n:=by simpa using hb
    rw[if_neg (by omega),decide_eq_false (by omega)]at hs;refine ae (aa 1 rfl (ab [2] ?_));refine az ⟨.inr rfl,_,.tmp rfl (.nil),?_⟩;exact⟨.refl _,by rw[hs];rfl⟩
   have dg:n≤0:=by simpa using hb
   rw[if_pos (by omega)]at hs;refine aw (ah [] rfl ?_);refine ae (aa 1 rfl (ab [2] ?_));refine az ⟨.inr rfl,_,.tmp rfl (.nil),?_⟩;exact⟨.refl _,by rw[hs];rfl⟩
 ·
  obtain⟨u1,w1,Bb,eS,gE⟩:=id tT
  obtain⟨rfl,rfl,rfl⟩:f=decide (q.num<0)∧u=u1∧w=w1:=by simpa using Bb
  obtain⟨mu,my,rfl,mz,mA⟩:=id eS;obtain⟨Dm,Dn,rfl,Dp,Dq⟩:=id gE;refine ae (aa 2 rfl (yu qC rfl rfl (aa 1 rfl (ab [1,3] ?_))));refine cI rfl (ae (aa 3 rfl (yw (vs:=[.bool _,_,_]) ag rfl rfl rfl (KK m7 jf m0) (aB rfl rfl (Ga tT.raw hN) ?_))));rintro v1 H1 ⟨bg,rfl⟩;refine aa 1 rfl (ab [2] ?_);refine az ⟨.inr rfl,_,.tmp rfl (.nil),?_⟩;exact⟨bg,rfl⟩
theorem DC{H:Heap}{vs:List Value}{q:Rat}(hv:bQ H vs q)(hN:(aM q:Int)≤1099511627776):
 Fn Tryz.prog 92 #[.agg vs.toArray] H (tM H (-q)):=by
 obtain⟨n,d,b,rfl,gM⟩:=id hv
 have cP:=fun ad f u w (h:bH H (.agg #[.bool f,u,w]) q)(_:b=some ad)=>h.raw;refine aY (args:=[_]) Tryz.func92 rfl rfl Tryz.ntmps92 rfl rfl fun w0=> ?_;refine ah [0] rfl ?_;refine ae (bZ rfl rfl (bm fh rfl (ab [1,2] ?_)));refine ao ?_
 rcases gM with ⟨rfl,hn,hd,h1,h2,h3⟩ | ⟨ad,f,u,w,rfl,tT,m7,jf,m0⟩
 ·
  skip
  refine ae (aa 2 rfl (yu qC rfl rfl (ab [1,2,5] ?_)));refine dd rfl (aw (ah [1,2] rfl ?_));refine ae (aa 2 rfl (tD rfl ⟨by omega,by omega⟩ (aa 2 rfl (di ag rfl fh rfl rfl ?_))));obtain⟨ti,aj,ak⟩:=cL;refine aI (.inl ⟨rfl,rfl⟩) rfl rfl rfl aj ak rfl rfl rfl (ab [2] ?_);obtain⟨b8,aP,aQ⟩:=cL;refine az ⟨.inr rfl,_,.agg rfl Tryz.underlying121 aP aQ (.nil),?_⟩;exact⟨.refl _,_,rfl,-n,d,none,rfl,.inl ⟨rfl,by rw[Rat.neg_num,hn],by rw[Rat.neg_den,hd],by omega,by omega,by omega⟩⟩
 ·
  obtain⟨u1,w1,Bb,eS,gE⟩:=id tT
  obtain⟨rfl,rfl,rfl⟩:f=decide (q.num<0)∧u=u1∧w=w1:=by simpa using Bb
  obtain⟨mu,my,rfl,mz,mA⟩:=id eS;obtain⟨Dm,Dn,rfl,Dp,Dq⟩:=id gE;refine ae (aa 2 rfl (yu qC rfl rfl (ab [1,2,5] ?_)));refine cI rfl (ae (aa 3 rfl (yw (vs:=[.bool _,_,_]) ag rfl rfl rfl (KK m7 jf m0) (aB rfl rfl (afn tT.raw hN) ?_))));rintro w1 G1 ⟨fo,bX⟩;obtain⟨u1,x1,rfl,eS,fK⟩:=id bX;obtain⟨mu,my,rfl,mz,mA⟩:=id eS;obtain⟨tP,tQ,rfl,tR,tS⟩:=id fK;refine aB rfl rfl (yS bX) ?_;rintro w2 G2 ⟨dP,OZ,rfl,bS⟩;obtain⟨n2,d2,b2,rfl,_⟩:=id bS;obtain⟨ti,aj,ak⟩:=cL;refine aI (.inl ⟨rfl,rfl⟩) rfl rfl rfl aj ak rfl rfl rfl (ab [2] ?_);obtain⟨b8,aP,aQ⟩:=cL;refine az ⟨.inr rfl,_,.agg rfl Tryz.underlying121 aP aQ (.nil),?_⟩;exact⟨fo.trans dP,_,rfl,bS⟩
end Go.aq
namespace Lp
def aZ:Nat→(Nat→Rat)→Rat
 | 0,_=>0
 | n+1,f=>aZ n f+f n
theorem gn(n:Nat)(f:Nat→Rat):aZ (n+1) f=aZ n f+f n:=rfl
theorem DD(f:Nat→Rat):aZ 0 f=0:=rfl
theorem eG{n:Nat}{f g:Nat→Rat}(h:∀i,i<n→f i=g i):aZ n f=aZ n g:=by
 induction n with
 | zero=>rfl
 | succ n ih=>
  rw[gn,gn,ih (fun i hi=>h i (by omega)),h n (by omega)]
theorem Gg(n:Nat)(f g:Nat→Rat):aZ n (fun i=>f i+g i)=aZ n f+aZ n g:=by
 induction n with
 | zero=>simp only[aZ];grind
 | succ n ih=>simp only[gn,ih];grind
theorem Gh(n:Nat)(f g:Nat→Rat):aZ n (fun i=>f i-g i)=aZ n f-aZ n g:=by
 induction n with
 | zero=>simp only[aZ];grind
 | succ n ih=>simp only[gn,ih];grind
theorem tV(n:Nat)(k:Rat)(f:Nat→Rat):aZ n (fun i=>k*f i)=k*aZ n f:=by
 induction n with
 | zero=>simp[aZ]
 | succ n ih=>simp only[gn,ih];grind
theorem vF(n:Nat)(k:Rat)(f:Nat→Rat):aZ n (fun i=>f i*k)=aZ n f*k:=by
 induction n with
 | zero=>simp[aZ]
 | succ n ih=>simp only[gn,ih];grind
theorem KN(n:Nat)(f:Nat→Rat):aZ n (fun i=> - f i) = - aZ n f:=by
 induction n with
 | zero=>simp only[aZ];grind
 | succ n ih=>simp only[gn,ih];grind
theorem KO(n:Nat):aZ n (fun _=>0)=0:=by
 induction n with
 | zero=>rfl
 | succ n ih=>rw[gn,ih];grind
theorem lA{n:Nat}{f:Nat→Rat}(h:∀i,i<n→f i=0):aZ n f=0:=by
 rw[eG h,KO]
theorem tW{n k:Nat}(hk:k<n)(f:Nat→Rat)(h:∀i,i<n→i≠k→f i=0):aZ n f=f k:=by
 induction n with
 | zero=>omega
 | succ n ih=>
  rw[gn]
  by_cases e:k=n
  ·subst e
   rw[lA (fun i hi=>h i (by omega) (by omega))];grind
  ·rw[ih (by omega) (fun i hi bA=>h i (by omega) bA),h n (by omega) (by omega)];grind
theorem KP(m n:Nat)(f:Nat→Nat→Rat):
  aZ m (fun i=>aZ n (fun j=>f i j))=aZ n (fun j=>aZ m (fun i=>f i j)):=by
 induction m with
 | zero=>simp[aZ,KO]
 | succ m ih=>simp only[gn,ih,Gg]
theorem Gi{n:Nat}{f:Nat→Rat}(h:∀i,i<n→0≤f i):0≤aZ n f:=by
 induction n with
 | zero=>exact Rat.le_refl
 | succ n ih=>
  rw[gn]
  have h1:=ih (fun i hi=>h i (by omega))
  have h2:=h n (by omega)
  grind
theorem KR{n:Nat}{f g:Nat→Rat}(h:∀i,i<n→f i≤g i):aZ n f≤aZ n g:=by
 induction n with
 | zero=>exact Rat.le_refl
 | succ n ih=>
  rw[gn,gn]
  have h1:=ih (fun i hi=>h i (by omega))
  have h2:=h n (by omega)
  grind
theorem afu{n:Nat}{f:Nat→Rat}(h:0<aZ n f):∃i,i<n∧0<f i:=by
 false_or_by_contra
 rename_i hc
 have:aZ n f≤aZ n (fun _=>0):=KR (fun i hi=>by
  have:¬0<f i:=fun hp=>hc ⟨i,hi,hp⟩
  grind)
 rw[KO]at this
 grind
theorem VZ{n k:Nat}(hk:k<n)(f:Nat→Rat):aZ n (fun i=>if i=k then f i else 0)=f k:=by
 rw[tW hk _ (fun i _ bA=>if_neg bA),if_pos rfl]
structure av where
 m:Nat
 n:Nat
 A:Nat→Nat→Rat
 c:Nat→Rat
 B:Nat→Nat
namespace av
def pO(T:av)(x:Nat→Rat):Prop:=∀i,i<T.m→aZ (T.n+1) (fun j=>T.A i j*x j)=0
def cost(T:av)(x:Nat→Rat):Rat:=aZ (T.n+1) (fun j=>T.c j*x j)
structure WF(T:av):Prop where
 lt:∀i,i<T.m→T.B i<T.n
 unit:∀i k,i<T.m→k<T.m→T.A k (T.B i)=if k=i then 1 else 0
 zero:∀i,i<T.m→T.c (T.B i)=0
theorem WF.inj{T:av}(h:T.WF){i k:Nat}(hi:i<T.m)(hk:k<T.m)(e:T.B i=T.B k):i=k:=by
 have h1:=h.unit i k hi hk
 have h2:=h.unit k k hk hk
 rw[e,h2]at h1
 simp at h1
 exact h1.symm
def jQ(T:av):Prop:=∀i,i<T.m→0≤T.A i T.n
def dir(T:av)(s:Nat)(j:Nat):Rat:=(if j=s then 1 else 0)-aZ T.m (fun i=>if T.B i=j then T.A i s else 0)
theorem DE(T:av)(hB:∀i,i<T.m→T.B i<T.n)(s:Nat)(hs:s≤T.n)(f:Nat→Rat):
  aZ (T.n+1) (fun j=>f j*T.dir s j)=f s-aZ T.m (fun i=>f (T.B i)*T.A i s):=by
 have e1:∀j,f j*T.dir s j=(if j=s then f j else 0)-aZ T.m (fun i=>if j=T.B i then f j*T.A i s else 0):=by
  intro j
  unfold dir
  have:aZ T.m (fun i=>if j=T.B i then f j*T.A i s else 0)=f j*aZ T.m (fun i=>if T.B i=j then T.A i s else 0):=by
   rw[←tV]
   refine eG fun i _=> ?_
   by_cases e:T.B i=j
   ·rw[if_pos e,if_pos e.symm]
   ·rw[if_neg e,if_neg (fun h=>e h.symm)];grind
  rw[this]
  by_cases e:j=s
  ·rw[if_pos e,if_pos e];grind
  ·rw[if_neg e,if_neg e];grind
 rw[eG (fun j _=>e1 j),Gh,VZ (by omega)]
 congr 1
 rw[KP]
 refine eG fun i hi=> ?_
 have:=hB i hi
 exact VZ (f:=fun j=>f j*T.A i s) (by omega)
theorem yT{T:av}(h:T.WF)(s:Nat)(hs:s≤T.n):T.pO (T.dir s):=by
 intro k hk
 rw[DE T h.lt s hs]
 rw[tW hk]
 ·rw[h.unit k k hk hk,if_pos rfl];grind
 ·intro i hi bA
  rw[h.unit i k hi hk,if_neg (fun e=>bA e.symm)];grind
theorem DF{T:av}(h:T.WF)(s:Nat)(hs:s≤T.n):T.cost (T.dir s)=T.c s:=by
 unfold cost
 rw[DE T h.lt s hs,lA]
 ·grind
 ·intro i hi;rw[h.zero i hi];grind
def pivot(T:av)(r s:Nat):av:=
 {m:=T.m,n:=T.n
  A:=fun i j=>if i=r then T.A r j/T.A r s else T.A i j-T.A i s*(T.A r j/T.A r s)
  c:=fun j=>T.c j-T.c s*(T.A r j/T.A r s)
  B:=fun i=>if i=r then s else T.B i}
theorem Be{T:av}(h:T.WF){r s:Nat}(hr:r<T.m)(hs:s<T.n)(hp:T.A r s≠0):(T.pivot r s).WF:=by
 refine⟨fun i hi=> ?_,fun i k hi hk=> ?_,fun i hi=> ?_⟩
 ·simp only[pivot]at hi⊢
  split
  ·exact hs
  ·exact h.lt i hi
 ·simp only[pivot]at hi hk⊢
  by_cases ei:i=r
  ·simp only[if_pos ei]
   by_cases ek:k=r
   ·simp only[ek,ei,if_true];grind
   ·simp only[if_neg ek]
    rw[if_neg (by omega)];grind
  ·simp only[if_neg ei]
   have hu:=h.unit i r hi hr
   rw[if_neg (fun e=>ei e.symm)]at hu
   rw[hu]
   by_cases ek:k=r
   ·simp only[if_pos ek]
    rw[if_neg (by omega)];grind
   ·simp only[if_neg ek]
    rw[h.unit i k hi hk];grind
 ·simp only[pivot]at hi⊢
  by_cases ei:i=r
  ·simp only[if_pos ei];grind
  ·simp only[if_neg ei]
   have hu:=h.unit i r hi hr
   rw[if_neg (fun e=>ei e.symm)]at hu
   rw[hu,h.zero i hi];grind
theorem V0(T:av)(r s i:Nat)(x:Nat→Rat):
  aZ (T.n+1) (fun j=>(T.pivot r s).A i j*x j) =
   if i=r then aZ (T.n+1) (fun j=>T.A r j*x j)/T.A r s
   else aZ (T.n+1) (fun j=>T.A i j*x j)-T.A i s*(aZ (T.n+1) (fun j=>T.A r j*x j)/T.A r s):=by
 simp only[pivot]
 by_cases e:i=r
 ·simp only[if_pos e]
  rw[Rat.div_def,←vF]
  exact eG fun j _=>by grind
 ·simp only[if_neg e]
  rw[Rat.div_def,←vF,←tV,←Gh]
  exact eG fun j _=>by grind
theorem O0{T:av}{r s:Nat}(hr:r<T.m)(hp:T.A r s≠0)(x:Nat→Rat):(T.pivot r s).pO x↔T.pO x:=by
 constructor
 ·intro h i hi
  have dS:=h r hr
  have eZ:=h i hi
  have en:(T.pivot r s).n=T.n:=rfl
  rw[en,V0]at dS eZ
  rw[if_pos rfl]at dS
  have h0:aZ (T.n+1) (fun j=>T.A r j*x j)=0:=by grind
  by_cases e:i=r
  ·subst e;exact h0
  ·rw[if_neg e]at eZ;grind
 ·intro h i hi
  have en:(T.pivot r s).n=T.n:=rfl
  have em:(T.pivot r s).m=T.m:=rfl
  rw[em]at hi
  rw[en,V0,h r hr,h i hi]
  split <;> grind
theorem V1{T:av}{r s:Nat}(hr:r<T.m)(x:Nat→Rat)(hx:T.pO x):(T.pivot r s).cost x=T.cost x:=by
 have e:(T.pivot r s).cost x=T.cost x-T.c s*(aZ (T.n+1) (fun j=>T.A r j*x j)/T.A r s):=by
  unfold cost
  simp only[pivot]
  rw[Rat.div_def,←vF,←tV,←Gh]
  exact eG fun j _=>by grind
 rw[e,hx r hr];grind
structure oQ(T:av)(u r s:Nat):Prop where
 su:s<u
 neg:T.c s<0
 first:∀j,j<s→0≤T.c j
 rm:r<T.m
 pos:0<T.A r s
 least:∀i,i<T.m→0<T.A i s→T.A r T.n/T.A r s<T.A i T.n/T.A i s∨(T.A r T.n/T.A r s=T.A i T.n/T.A i s∧T.B r≤T.B i)
theorem O1{a b:Rat}(ha:0≤a)(hb:0<b):0≤a/b:=by
 rw[Rat.div_def]
 have:0<b⁻¹:=Rat.inv_pos.2 hb
 exact Rat.mul_nonneg ha (Rat.le_of_lt this)
theorem Gj{T:av}{u r s:Nat}(hf:T.jQ)(hb:T.oQ u r s):(T.pivot r s).jQ:=by
 intro i hi
 have eZ:i<T.m:=hi
 have hr:=hf r hb.rm
 have rO:=hf i eZ
 have hq:0≤T.A r T.n/T.A r s:=O1 hr hb.pos
 show 0≤(if i=r then T.A r T.n/T.A r s else T.A i T.n-T.A i s*(T.A r T.n/T.A r s))
 split
 ·exact hq
 ·by_cases hp:0<T.A i s
  ·have hl:T.A r T.n/T.A r s≤T.A i T.n/T.A i s:=by
    rcases hb.least i eZ hp with h | h
    ·exact Rat.le_of_lt h
    ·rw[h.1];exact Rat.le_refl
   have h3:T.A i s*(T.A r T.n/T.A r s)≤T.A i s*(T.A i T.n/T.A i s):=Rat.mul_le_mul_of_nonneg_left hl (Rat.le_of_lt hp)
   have h4:T.A i s*(T.A i T.n/T.A i s)=T.A i T.n:=by grind
   grind
  ·have h5:0≤(- T.A i s)*(T.A r T.n/T.A r s):=Rat.mul_nonneg (by grind) hq
   grind
structure tX(u:Nat)(len:Nat) where
 T:Nat→av
 r:Nat→Nat
 s:Nat→Nat
 wf:(T 0).WF
 fp:(T 0).jQ
 un:u≤(T 0).n
 step:∀k,k<len→(T k).oQ u (r k) (s k)
 next:∀k,k<len→T (k+1)=(T k).pivot (r k) (s k)
namespace tX
variable {u len:Nat} (R:tX u len)
theorem DG(k:Nat)(hk:k≤len):(R.T k).n=(R.T 0).n:=by
 induction k with
 | zero=>rfl
 | succ k ih=>rw[R.next k (by omega)];exact ih (by omega)
theorem sn{k:Nat}(hk:k<len):R.s k<(R.T k).n:=by
 have:=(R.step k hk).su
 have:=R.un
 rw[R.DG k (by omega)];omega
theorem yU(k:Nat)(hk:k≤len):(R.T k).WF:=by
 induction k with
 | zero=>exact R.wf
 | succ k ih=>
  rw[R.next k (by omega)]
  have hb:=R.step k (by omega)
  have:=hb.pos
  exact Be (ih (by omega)) hb.rm (R.sn (by omega)) (by grind)
theorem afv(k:Nat)(hk:k≤len):(R.T k).jQ:=by
 induction k with
 | zero=>exact R.fp
 | succ k ih=>
  rw[R.next k (by omega)]
  exact Gj (ih (by omega)) (R.step k (by omega))
theorem V2(k:Nat)(hk:k≤len)(x:Nat→Rat):(R.T k).pO x↔(R.T 0).pO x:=by
 induction k with
 | zero=>exact Iff.rfl
 | succ k ih=>
  rw[R.next k (by omega)]
  have hb:=R.step k (by omega)
  have:=hb.pos
  rw[O0 hb.rm (by grind)]
  exact ih (by omega)
theorem V3(k:Nat)(hk:k≤len)(x:Nat→Rat)(hx:(R.T 0).pO x):(R.T k).cost x=(R.T 0).cost x:=by
 induction k with
 | zero=>rfl
 | succ k ih=>
  rw[R.next k (by omega)]
  have hb:=R.step k (by omega)
  rw[V1 hb.rm x ((R.V2 k (by omega) x).2 hx)]
  exact ih (by omega)
def basic(k j:Nat):Prop:=∃i,i<(R.T k).m∧(R.T k).B i=j
def val(T:av)(j:Nat):Rat:=aZ T.m (fun i=>if T.B i=j then T.A i T.n else 0)
theorem O2{T:av}(h:T.WF){i:Nat}(hi:i<T.m):val T (T.B i)=T.A i T.n:=by
 unfold val
 rw[tW hi,if_pos rfl]
 intro k hk bA
 rw[if_neg]
 exact fun e=>bA (h.inj hk hi e)
def vG(k:Nat):Prop:=(R.T k).A (R.r k) (R.T k).n=0
theorem V4{k:Nat}(hk:k<len)(hd:R.vG k)(j:Nat):val (R.T (k+1)) j=val (R.T k) j:=by
 rw[R.next k hk]
 unfold val
 unfold vG at hd
 refine eG fun i hi=> ?_
 simp only[pivot]
 rw[hd]
 by_cases e:i=R.r k
 ·subst e;simp only[if_true,hd];grind
 ·simp only[if_neg e];grind
theorem V5{a b:Nat}(Bf:a≤b)(hb:b≤len)(hd:∀k,a≤k→k<b→R.vG k)(j:Nat):val (R.T b) j=val (R.T a) j:=by
 induction b with
 | zero=>obtain rfl:a=0:=by omega
         rfl
 | succ b ih=>
  by_cases e:a=b+1
  ·subst e;rfl
  ·rw[R.V4 (by omega) (hd b (by omega) (by omega))]
   exact ih (by omega) (by omega) (fun k h1 h2=>hd k h1 (by omega))
theorem Gk{k:Nat}(hk:k<len)(j:Nat):R.basic (k+1) j↔(j=R.s k∨(R.basic k j∧j≠(R.T k).B (R.r k))):=by
 unfold basic
 rw[R.next k hk]
 have hb:=R.step k hk
 have hw:=R.yU k (by omega)
 constructor
 ·rintro⟨i,hi,e⟩
  have eZ:i<(R.T k).m:=hi
  have e':(if i=R.r k then R.s k else(R.T k).B i)=j:=e
  by_cases er:i=R.r k
  ·rw[if_pos er]at e';exact .inl e'.symm
  ·rw[if_neg er]at e'
   refine .inr ⟨⟨i,eZ,e'⟩,fun h=>er (hw.inj eZ hb.rm (by rw[e',h]))⟩
 ·rintro(h | ⟨⟨i,hi,e⟩,bA⟩)
  ·refine⟨R.r k,hb.rm,?_⟩
   show (if R.r k=R.r k then R.s k else _)=j
   rw[if_pos rfl,h]
  ·refine⟨i,hi,?_⟩
   show (if i=R.r k then R.s k else(R.T k).B i)=j
   rw[if_neg,e]
   intro er;exact bA (by rw[←e,er])
theorem O3{k:Nat}(hk:k<len):¬R.basic k (R.s k):=by
 rintro⟨i,hi,e⟩
 have:=(R.yU k (by omega)).zero i hi
 rw[e]at this
 have:=(R.step k hk).neg
 grind
theorem O4{k:Nat}(hk:k<len):R.basic k ((R.T k).B (R.r k)):=⟨_,(R.step k hk).rm,rfl⟩
theorem change{a b:Nat}(Bf:a≤b)(hb:b≤len)(j:Nat)(h:¬(R.basic a j↔R.basic b j)):
  ∃k,a≤k∧k<b∧(R.s k=j∨(R.T k).B (R.r k)=j):=by
 induction b with
 | zero=>obtain rfl:a=0:=by omega
         exact absurd Iff.rfl h
 | succ b ih=>
  by_cases e:a=b+1
  ·subst e;exact absurd Iff.rfl h
  ·by_cases h2:R.s b=j∨(R.T b).B (R.r b)=j
   ·exact⟨b,by omega,by omega,h2⟩
   ·have:R.basic (b+1) j↔R.basic b j:=by
     rw[R.Gk (by omega)]
     constructor
     ·rintro(h | h)
      ·exact absurd (.inl h.symm) h2
      ·exact h.1
     ·exact fun h=> .inr ⟨h,fun e=>h2 (.inr e.symm)⟩
    obtain⟨k,h3,h4,h5⟩:=ih (by omega) (by omega) (fun hh=>h (hh.trans this.symm))
    exact⟨k,h3,by omega,h5⟩
theorem val_zero{k:Nat}(hk:k<len)(hd:R.vG k){j:Nat}(h:R.s k=j∨(R.T k).B (R.r k)=j):val (R.T k) j=0:=by
 rcases h with h | h
 ·rw[←R.V4 hk hd]
  have e:j=(R.T (k+1)).B (R.r k):=by
   rw[R.next k hk]
   show j=if R.r k=R.r k then R.s k else _
   rw[if_pos rfl,h]
  rw[e,O2 (R.yU (k+1) (by omega)) (by rw[R.next k hk];exact(R.step k hk).rm)]
  rw[R.next k hk]
  show (if R.r k=R.r k then(R.T k).A (R.r k) (R.T k).n/(R.T k).A (R.r k) (R.s k)else _)=0
  rw[if_pos rfl]
  unfold vG at hd
  rw[hd];grind
 ·rw[←h,O2 (R.yU k (by omega)) (R.step k hk).rm]
  exact hd
theorem KS{a b t p q:Nat}(hb:b≤len)(hd:∀k,a≤k→k<b→R.vG k)
  (hle:∀k,a≤k→k<b→R.s k≤t∧(R.T k).B (R.r k)≤t) (fi:a≤p) (dJ:p<b) (bX:a≤q) (bS:q<b)
  (hp:(R.T p).B (R.r p)=t) (hq:R.s q=t):False:=by
 have bp:=R.step p (by omega)
 have bq:=R.step q (by omega)
 have wp:=R.yU p (by omega)
 have hs:R.s p<t:=by
  have h1:=(hle p fi dJ).1
  have h2:R.s p≠t:=fun e=>R.O3 (k:=p) (by omega) (by rw[e,←hp];exact R.O4 (by omega))
  omega
 have mB:R.s p≤(R.T p).n:=Nat.le_of_lt (R.sn (by omega))
 have afw:=yT wp (R.s p) mB
 have V6:=(R.V2 p (by omega) _).1 afw
 have hc:=DF wp (R.s p) mB
 rw[R.V3 p (by omega) _ V6,←R.V3 q (by omega) _ V6]at hc
 have en:(R.T q).n=(R.T p).n:=by rw[R.DG p (by omega),R.DG q (by omega)]
 unfold cost at hc
 rw[en,DE _ wp.lt _ mB]at hc
 have lu:0≤(R.T q).c (R.s p):=bq.first _ (by rw[hq];exact hs)
 have gg:=bp.neg
 have DH:0<aZ (R.T p).m (fun i=>(R.T q).c ((R.T p).B i)*(R.T p).A i (R.s p)):=by grind
 obtain⟨i,hi,jr⟩:=afu DH
 have Gf:¬R.basic q ((R.T p).B i):=by
  rintro⟨k,hk,e⟩
  have:=(R.yU q (by omega)).zero k hk
  rw[e]at this
  rw[this]at jr;grind
 have Oo:R.basic p ((R.T p).B i):=⟨i,hi,rfl⟩
 have hex:∃k,a≤k∧k<b∧min p q≤k∧(R.s k=(R.T p).B i∨(R.T k).B (R.r k)=(R.T p).B i):=by
  rcases Nat.le_total p q with mV | mV
  ·obtain⟨k,h1,h2,h3⟩:=R.change mV (by omega) ((R.T p).B i) (fun h=>Gf (h.1 Oo))
   exact⟨k,by omega,by omega,by omega,h3⟩
  ·obtain⟨k,h1,h2,h3⟩:=R.change mV (by omega) ((R.T p).B i) (fun h=>Gf (h.2 Oo))
   exact⟨k,by omega,by omega,by omega,h3⟩
 obtain⟨k,gL,fP,_,dz⟩:=hex
 have sw:(R.T p).B i≤t:=by
  rcases dz with e | e
  ·rw[←e];exact(hle k gL fP).1
  ·rw[←e];exact(hle k gL fP).2
 have KL:val (R.T k) ((R.T p).B i)=0:=R.val_zero (by omega) (hd k gL fP) dz
 have V7:val (R.T p) ((R.T p).B i)=0:=by
  rcases Nat.le_total p k with h | h
  ·rw[←R.V5 h (by omega) (fun x h1 h2=>hd x (by omega) (by omega))];exact KL
  ·rw[R.V5 h (by omega) (fun x h1 h2=>hd x (by omega) (by omega))];exact KL
 rw[O2 wp hi]at V7
 by_cases et:(R.T p).B i=t
 ·have:i=R.r p:=wp.inj hi bp.rm (by rw[et,hp])
  subst this
  have h1:=bq.neg
  rw[hq,←et]at h1
  have h2:=bp.pos
  have h3:(R.T q).c ((R.T p).B (R.r p))*(R.T p).A (R.r p) (R.s p)<0:=by
   have:=Rat.mul_pos (show 0 < -(R.T q).c ((R.T p).B (R.r p)) by grind) h2
   grind
  grind
 ·have bP:(R.T p).B i<t:=by omega
  have m7:0≤(R.T q).c ((R.T p).B i):=bq.first _ (by rw[hq];exact bP)
  have hA:0<(R.T p).A i (R.s p):=by
   false_or_by_contra
   rename_i hn
   have:0≤(R.T q).c ((R.T p).B i)*(-(R.T p).A i (R.s p)):=Rat.mul_nonneg m7 (by grind)
   grind
  have O5:=hd p fi dJ
  unfold vG at O5
  have e0:(0:Rat)/(R.T p).A (R.r p) (R.s p)=0:=by grind
  have e1:(0:Rat)/(R.T p).A i (R.s p)=0:=by grind
  rcases bp.least i hi hA with h | h
  ·rw[O5,V7,e0,e1]at h;exact absurd h (by decide)
  ·have:=h.2;omega
theorem short(t:Nat):∀a b,a≤b→b≤len→(∀k,a≤k→k<b→R.vG k)→
  (∀k,a≤k→k<b→R.s k<t∧(R.T k).B (R.r k)<t)→b<a+2^t:=by
 induction t with
 | zero=>
  intro a b Bf hb hd bP
  by_cases e:a=b
  ·subst e;simp
  ·have:=bP a (Nat.le_refl _) (by omega);omega
 | succ t ih=>
  intro a b Bf hb hd bP
  have hle:∀k,a≤k→k<b→R.s k≤t∧(R.T k).B (R.r k)≤t:=fun k h1 h2=>by
   have:=bP k h1 h2;omega
  have h2:2^(t+1)=2^t+2^t:=by rw[Nat.pow_succ];omega
  have jr:0<2^t:=Nat.pow_pos (by omega)
  have once:∀k l,a≤k→k<l→l<b→(R.s k=t∨(R.T k).B (R.r k)=t)→¬(R.s l=t∨(R.T l).B (R.r l)=t):=by
   intro k l hk O6 hl iM kQ
   rcases iM with iM | iM
   ·
    have cA:R.s l=t:=by
     rcases kQ with h | h
     ·exact h
     ·exact(R.KS hb hd hle (p:=l) (q:=k) (by omega) (by omega) (by omega) (by omega) h iM).elim
    have yV:R.basic (k+1) t:=(R.Gk (by omega) t).2 (.inl iM.symm)
    have kB:¬R.basic l t:=by rw[←cA];exact R.O3 (by omega)
    obtain⟨x,h1,h2,h3⟩:=R.change (a:=k+1) (b:=l) (by omega) (by omega) t (fun h=>kB (h.1 yV))
    have hx:∀y,k+1≤y→y≤l→R.basic y t:=by
     intro y hy
     induction y with
     | zero=>omega
     | succ y O7=>
      intro kR
      by_cases e:k=y
      ·subst e;exact yV
      ·have:=O7 (by omega) (by omega)
       refine(R.Gk (by omega) t).2 (.inr ⟨this,fun e=> ?_⟩)
       exact R.KS hb hd hle (p:=y) (q:=k) (by omega) (by omega) (by omega) (by omega) e.symm iM
    exact kB (hx l (by omega) (Nat.le_refl _))
   ·have cA:(R.T l).B (R.r l)=t:=by
     rcases kQ with h | h
     ·exact(R.KS hb hd hle (p:=k) (q:=l) (by omega) (by omega) (by omega) (by omega) iM h).elim
     ·exact h
    have yV:¬R.basic (k+1) t:=by
     rw[R.Gk (by omega) t]
     rintro(h | h)
     ·exact R.O3 (k:=k) (by omega) (by rw[←h,←iM];exact R.O4 (by omega))
     ·exact h.2 iM.symm
    have kB:R.basic l t:=by rw[←cA];exact R.O4 (by omega)
    have hx:∀y,k+1≤y→y≤l→¬R.basic y t:=by
     intro y hy
     induction y with
     | zero=>omega
     | succ y O7=>
      intro kR
      by_cases e:k=y
      ·subst e;exact yV
      ·have:=O7 (by omega) (by omega)
       rw[R.Gk (by omega) t]
       rintro(h | h)
       ·exact R.KS hb hd hle (p:=k) (q:=y) (by omega) (by omega) (by omega) (by omega) iM h.symm
       ·exact this h.1
    exact hx l (by omega) (Nat.le_refl _) kB
  by_cases hex:∃k,a≤k∧k<b∧(R.s k=t∨(R.T k).B (R.r k)=t)
  ·obtain⟨k,gL,fP,dz⟩:=hex
   have h3:=ih a k (by omega) (by omega) (fun x h1 h2=>hd x h1 (by omega)) (fun x h1 h2=>by
    have hl:=hle x h1 (by omega)
    have hn:¬(R.s x=t∨(R.T x).B (R.r x)=t):=fun h=>once x k h1 h2 fP h dz
    omega)
   have h4:=ih (k+1) b (by omega) hb (fun x h1 h2=>hd x (by omega) h2) (fun x h1 h2=>by
    have hl:=hle x (by omega) h2
    have hn:=once k x gL (by omega) h2 dz
    omega)
   omega
  ·have h3:=ih a b Bf hb hd (fun x h1 h2=>by
    have hl:=hle x h1 h2
    have hn:¬(R.s x=t∨(R.T x).B (R.r x)=t):=fun h=>hex ⟨x,h1,h2,h⟩
    omega)
   omega
end tX
end av
end Lp
namespace Lp
namespace av
structure Same(T S:av):Prop where
 m:S.m=T.m
 n:S.n=T.n
 nN:∀x,S.pO x↔T.pO x
 cost:∀x,T.pO x→S.cost x=T.cost x
theorem Same.symm{T S:av}(h:Same T S):Same S T:=⟨h.m.symm,h.n.symm,fun x=>(h.nN x).symm,fun x hx=>(h.cost x ((h.nN x).1 hx)).symm⟩
theorem Same.trans{T S R:av}(h:Same T S)(h':Same S R):Same T R:=
 ⟨h'.m.trans h.m,h'.n.trans h.n,fun x=>(h'.nN x).trans (h.nN x),fun x hx=>(h'.cost x ((h.nN x).2 hx)).trans (h.cost x hx)⟩
theorem Same.pivot{T:av}{r s:Nat}(hr:r<T.m)(hp:T.A r s≠0):Same T (T.pivot r s):=
 ⟨rfl,rfl,fun x=>O0 hr hp x,fun x hx=>V1 hr x hx⟩
theorem afx{T S:av}(h:Same T S)(hT:T.WF)(hS:S.WF)(hB:∀i,i<T.m→S.B i=T.B i):S.c S.n=T.c T.n:=by
 have h1:=yT hT T.n (Nat.le_refl _)
 have h2:=h.cost _ h1
 rw[DF hT T.n (Nat.le_refl _)]at h2
 unfold cost at h2
 rw[h.n,DE T hT.lt _ (Nat.le_refl _),lA]at h2
 ·rw[h.n];grind
 ·intro i hi
  rw[←hB i hi,hS.zero i (by rw[h.m];exact hi)];grind
def Gl(n:Nat):Nat→List (List Nat)
 | 0=>[[]]
 | m+1=>(Gl n m).flatMap fun l=>(List.range n).map fun j=>l ++ [j]
theorem afy(n m:Nat)(f:Nat→Nat)(h:∀i,i<m→f i<n):(List.range m).map f∈Gl n m:=by
 induction m with
 | zero=>simp[Gl]
 | succ m ih=>
  simp only[Gl,List.mem_flatMap,List.mem_map,List.mem_range]
  exact⟨_,ih (fun i hi=>h i (by omega)),f m,h m (by omega),by rw[List.range_succ,List.map_append];rfl⟩
theorem V8{α:Type}(p q:α→Bool)(l:List α)(h:∀x,x∈l→p x=true→q x=true)
  (hx:∃x,x∈l∧q x=true∧p x=false):l.countP p<l.countP q:=by
 induction l with
 | nil=>obtain⟨x,hx,_⟩:=hx;cases hx
 | cons a l ih=>
  have hle:l.countP p≤l.countP q:=List.countP_mono_left fun x hx hp=>h x (List.mem_cons_of_mem _ hx) hp
  rw[List.countP_cons,List.countP_cons]
  obtain⟨x,fK,eT,ic⟩:=hx
  rcases List.mem_cons.1 fK with e | e
  ·subst e
   rw[eT,ic];simp;omega
  ·have:=ih (fun y hy=>h y (List.mem_cons_of_mem _ hy)) ⟨x,e,eT,ic⟩
   have ha:=h a (List.mem_cons_self ..)
   cases hp:p a
   ·simp;omega
   ·rw[ha hp];simp;omega
def KT(T:av)(l:List Nat):Prop:=∃S:av,S.WF∧Same T S∧(List.range T.m).map S.B=l∧T.c T.n<S.c S.n
open Classical in
noncomputable def xa(T:av):Nat:=(Gl T.n T.m).countP fun l=>decide (KT T l)
theorem KT.of{T S:av}(h:Same T S)(hv:T.c T.n≤S.c S.n){l:List Nat}(hb:KT S l):KT T l:=by
 obtain⟨R,h1,h2,h3,h4⟩:=hb
 refine⟨R,h1,h.trans h2,by rw[←h.m];exact h3,by grind⟩
open Classical in
theorem afz{T S:av}(h:Same T S)(hv:T.c T.n≤S.c S.n):xa S≤xa T:=by
 unfold xa
 rw[h.m,h.n]
 exact List.countP_mono_left fun l _ hp=>by
  have:=of_decide_eq_true hp
  exact decide_eq_true (this.of h hv)
open Classical in
theorem afA{T S:av}(h:Same T S)(hS:S.WF)(hv:T.c T.n<S.c S.n):xa S<xa T:=by
 unfold xa
 rw[h.m,h.n]
 refine V8 _ _ _ (fun l _ hp=> ?_) ⟨(List.range T.m).map S.B,?_,?_,?_⟩
 ·have:=of_decide_eq_true hp
  exact decide_eq_true (this.of h (Rat.le_of_lt hv))
 ·exact afy _ _ _ (fun i hi=>by rw[←h.n];exact hS.lt i (by rw[h.m];exact hi))
 ·exact decide_eq_true ⟨S,hS,h,rfl,hv⟩
 ·refine decide_eq_false ?_
  rintro⟨R,h1,h2,h3,h4⟩
  have:R.c R.n=S.c S.n:=afx h2 hS h1 (fun i hi=>by
   rw[h.m]at h3 hi
   exact List.map_inj_left.1 h3 i (List.mem_range.2 hi))
  grind
theorem afB{T:av}{u r s:Nat}(hf:T.jQ)(hb:T.oQ u r s):
  T.c T.n≤(T.pivot r s).c (T.pivot r s).n∧(T.A r T.n≠0→T.c T.n<(T.pivot r s).c (T.pivot r s).n):=by
 have e:(T.pivot r s).c (T.pivot r s).n=T.c T.n-T.c s*(T.A r T.n/T.A r s):=rfl
 rw[e]
 have hq:=O1 (hf r hb.rm) hb.pos
 have hn:=hb.neg
 constructor
 ·have:=Rat.mul_nonneg (show 0≤- T.c s by grind) hq
  grind
 ·intro h0
  have hp:0<T.A r T.n/T.A r s:=by
   have jr:=hb.pos
   have:T.A r T.n/T.A r s≠0:=fun h=>h0 (by
    have:T.A r T.n/T.A r s*T.A r s=T.A r T.n:=by grind
    grind)
   grind
  have:=Rat.mul_pos (show 0 < - T.c s by grind) hp
  grind
def Step(u:Nat)(S T:av):Prop:=∃r s,T.oQ u r s∧S=T.pivot r s
def tX.nil{u:Nat}(T:av)(hw:T.WF)(hf:T.jQ)(hu:u≤T.n):tX u 0:=
 {T:=fun _=>T,r:=fun _=>0,s:=fun _=>0,wf:=hw,fp:=hf,un:=hu
  step:=fun k hk=>absurd hk (by omega),next:=fun k hk=>absurd hk (by omega)}
def tX.snoc{u h:Nat}(R:tX u h)(r s:Nat)(hb:(R.T h).oQ u r s):tX u (h+1):=
 {T:=fun k=>if k≤h then R.T k else(R.T h).pivot r s
  r:=fun k=>if k<h then R.r k else r
  s:=fun k=>if k<h then R.s k else s
  wf:=by simpa using R.wf
  fp:=by simpa using R.fp
  un:=by simpa using R.un
  step:=fun k hk=>by
   simp only[show k≤h by omega,if_true]
   by_cases e:k<h
   ·simp only[e,if_true];exact R.step k e
   ·simp only[e,if_false]
    obtain rfl:k=h:=by omega
    exact hb
  next:=fun k hk=>by
   simp only[show k≤h by omega,if_true]
   by_cases e:k<h
   ·simp only[e,if_true,show k+1≤h by omega];exact R.next k e
   ·simp only[e,if_false]
    obtain rfl:k=h:=by omega
    simp only[show ¬(k+1≤k) by omega,if_false]}
theorem ends(u:Nat):∀(v:Nat)(T:av),T.WF→T.jQ→u≤T.n→xa T≤v→Acc (Step u) T:=by
 intro v
 induction v using Nat.strongRecOn with
 | _ v ih=>
  intro T hw hf hu hv
  have key:∀d h (R:tX u h),(∀k,k<h→R.vG k)→xa (R.T h)≤v→2^(R.T 0).n≤h+d→Acc (Step u) (R.T h):=by
   intro d
   induction d with
   | zero=>
    intro h R hd hr hp
    have:=R.short (R.T 0).n 0 h (by omega) (Nat.le_refl _) (fun k _ hk=>hd k hk) (fun k _ hk=>by
     refine⟨?_,?_⟩
     ·have:=R.sn hk
      rw[R.DG k (by omega)]at this;exact this
     ·have:=(R.yU k (by omega)).lt _ (R.step k hk).rm
      rw[R.DG k (by omega)]at this;exact this)
    omega
   | succ d ihd=>
    intro h R hd hr hp
    refine Acc.intro _ fun S hS=> ?_
    obtain⟨r,s,hb,rfl⟩:=hS
    have O8:=R.yU h (Nat.le_refl _)
    have O9:=R.afv h (Nat.le_refl _)
    have pK:u≤(R.T h).n:=by rw[R.DG h (Nat.le_refl _)];exact R.un
    have jr:=hb.pos
    have bA:(R.T h).A r s≠0:=by grind
    have mB:s<(R.T h).n:=by have:=hb.su;omega
    have qD:=Same.pivot hb.rm bA
    have Bg:=afB O9 hb
    by_cases h0:(R.T h).A r (R.T h).n=0
    ·have e:(R.snoc r s hb).T (h+1)=(R.T h).pivot r s:=by
      show (if h+1≤h then _ else _)=_
      rw[if_neg (by omega)]
     rw[←e]
     refine ihd (h+1) (R.snoc r s hb) (fun k hk=> ?_) ?_ ?_
     ·unfold tX.vG
      have e1:(R.snoc r s hb).T k=R.T k:=by
       show (if k≤h then _ else _)=_
       rw[if_pos (by omega)]
      rw[e1]
      by_cases ek:k<h
      ·have e2:(R.snoc r s hb).r k=R.r k:=by
        show (if k<h then _ else _)=_
        rw[if_pos ek]
       rw[e2];exact hd k ek
      ·obtain rfl:k=h:=by omega
       have e2:(R.snoc r s hb).r k=r:=by
        show (if k<k then _ else _)=_
        rw[if_neg (by omega)]
       rw[e2];exact h0
     ·rw[e];exact Nat.le_trans (afz qD Bg.1) hr
     ·have e3:(R.snoc r s hb).T 0=R.T 0:=by
       show (if 0≤h then R.T 0 else(R.T h).pivot r s)=_
       rw[if_pos (by omega)]
      rw[e3];omega
    ·have bP:=afA qD (Be O8 hb.rm mB bA) (Bg.2 h0)
     exact ih (xa ((R.T h).pivot r s)) (by omega) _ (Be O8 hb.rm mB bA) (Gj O9 hb) pK (Nat.le_refl _)
  have:=key (2^T.n) 0 (tX.nil T hw hf hu) (fun k hk=>absurd hk (by omega)) hv (by
   show 2^T.n≤0+2^T.n
   omega)
  exact this
theorem Pb{u:Nat}{T:av}(hw:T.WF)(hf:T.jQ)(hu:u≤T.n):Acc (Step u) T:=ends u _ T hw hf hu (Nat.le_refl _)
end av
end Lp
namespace Lp
structure LP where
 n:Nat
 m:Nat
 free:Nat→Bool
 a:Nat→Nat→Rat
 rel:Nat→Int
 b:Nat→Rat
def qE(r:Int)(x:Rat):Prop:=(r=1→x≤0)∧(r=2→x=0)∧(r=3→0≤x)
def cH(n:Nat)(c x:Nat→Rat):Rat:=aZ n (fun j=>c j*x j)
namespace LP
variable (p:LP)
def Valid:Prop:=∀i,i<p.m→p.rel i=1∨p.rel i=2∨p.rel i=3
def gq(t:Rat)(x:Nat→Rat):Prop:=(∀j,j<p.n→p.free j=false→0≤x j)∧∀i,i<p.m→qE (p.rel i) (cH p.n (p.a i) x-p.b i*t)
def Signed(y:Nat→Rat):Prop:=∀i,i<p.m→(p.rel i=3→0≤y i)∧(p.rel i=1→y i≤0)
def kE(y:Nat→Rat)(j:Nat):Rat:=aZ p.m (fun i=>y i*p.a i j)
def xe(y:Nat→Rat):Rat:=aZ p.m (fun i=>y i*p.b i)
structure yW(c x y:Nat→Rat):Prop where
 fp:p.gq 1 x
 signed:p.Signed y
 pP:∀j,j<p.n→0≤c j-p.kE y j∧(p.free j=true→c j-p.kE y j≤0)
 eq:p.xe y=cH p.n c x
structure yX(y:Nat→Rat):Prop where
 signed:p.Signed y
 pP:∀j,j<p.n→p.kE y j≤0∧(p.free j=true→0≤p.kE y j)
 pos:0<p.xe y
structure yY(c x r:Nat→Rat):Prop where
 fp:p.gq 1 x
 oR:p.gq 0 r
 neg:cH p.n c r<0
def yZ:Prop:=∀x,¬p.gq 1 x
def Gm(c:Nat→Rat)(v:Rat):Prop:=(∃x,p.gq 1 x∧cH p.n c x=v)∧∀x,p.gq 1 x→v≤cH p.n c x
def KU(c:Nat→Rat):Prop:=(∃x,p.gq 1 x)∧∀v,∃x,p.gq 1 x∧cH p.n c x<v
end LP
theorem V9(n:Nat)(c x y:Nat→Rat):cH n c (fun j=>x j+y j)=cH n c x+cH n c y:=by
 unfold cH
 rw[←Gg]
 exact eG fun j _=>by grind
theorem Wa(n:Nat)(c x:Nat→Rat)(k:Rat):cH n c (fun j=>k*x j)=k*cH n c x:=by
 unfold cH
 rw[←tV]
 exact eG fun j _=>by grind
theorem afC{n:Nat}{c c' x x':Nat→Rat}(h:∀j,j<n→c j=c' j)(h':∀j,j<n→x j=x' j):cH n c x=cH n c' x':=
 eG fun j hj=>by rw[h j hj,h' j hj]
namespace LP
variable {p:LP}
theorem afD(p:LP)(y x:Nat→Rat):cH p.n (p.kE y) x=aZ p.m (fun i=>y i*cH p.n (p.a i) x):=by
 unfold cH kE
 have h1:∀j,aZ p.m (fun i=>y i*p.a i j)*x j=aZ p.m (fun i=>y i*p.a i j*x j):=fun j=>(vF _ _ _).symm
 have h2:∀i,y i*aZ p.n (fun j=>p.a i j*x j)=aZ p.n (fun j=>y i*p.a i j*x j):=fun i=>by
  rw[←tV]
  exact eG fun j _=>by grind
 rw[eG (fun j _=>h1 j),eG (fun i _=>h2 i),KP]
theorem Wb(hv:p.Valid){t:Rat}{x y:Nat→Rat}(hx:p.gq t x)(hy:p.Signed y):p.xe y*t≤cH p.n (p.kE y) x:=by
 rw[afD]
 unfold xe
 rw[←vF]
 refine KR fun i hi=> ?_
 have h1:=hx.2 i hi
 have h2:=hy i hi
 rcases hv i hi with e | e | e
 ·have h3:=h1.1 e
  have h4:=h2.2 e
  have h5:0≤(- y i)*(- (cH p.n (p.a i) x-p.b i*t)):=Rat.mul_nonneg (by grind) (by grind)
  grind
 ·have h3:=h1.2.1 e
  have:cH p.n (p.a i) x=p.b i*t:=by grind
  rw[this];grind
 ·have h3:=h1.2.2 e
  have h4:=h2.1 e
  have h5:0≤y i*(cH p.n (p.a i) x-p.b i*t):=Rat.mul_nonneg h4 h3
  grind
theorem yX.isInf(hv:p.Valid){y:Nat→Rat}(h:p.yX y):p.yZ:=fun x hx=>by
 have h1:=Wb hv hx h.signed
 have h2:cH p.n (p.kE y) x≤0:=by
  have:cH p.n (p.kE y) x≤aZ p.n (fun _=>0):=KR fun j hj=>by
   have h3:=h.pP j hj
   cases hf:p.free j with
   | true=>have h4:=h3.2 hf;have:p.kE y j=0:=by grind
           rw[this];grind
   | false=>
    have h5:=hx.1 j hj hf
    have:0≤(- p.kE y j)*x j:=Rat.mul_nonneg (by grind) h5
    grind
  rwa [KO]at this
 have:=h.pos
 grind
theorem below{c x y:Nat→Rat}(hv:p.Valid)(hx:p.gq 1 x)(hy:p.Signed y)(hc:∀j,j<p.n→0≤c j-p.kE y j∧(p.free j=true→c j-p.kE y j≤0)):p.xe y≤cH p.n c x:=by
 have h1:=Wb hv hx hy
 have h2:cH p.n (p.kE y) x≤cH p.n c x:=KR fun j hj=>by
  have h3:=hc j hj
  cases hf:p.free j with
  | true=>have h4:=h3.2 hf;have:p.kE y j=c j:=by grind
          rw[this];exact Rat.le_refl
  | false=>
   have h5:=hx.1 j hj hf
   have:0≤(c j-p.kE y j)*x j:=Rat.mul_nonneg h3.1 h5
   grind
 grind
theorem yW.Wc(hv:p.Valid){c x y:Nat→Rat}(h:p.yW c x y):p.Gm c (cH p.n c x):=
 ⟨⟨x,h.fp,rfl⟩,fun x' tw=>by rw[←h.eq];exact below hv tw h.signed h.pP⟩
theorem afE{r:Int}{x y:Rat}(hx:qE r x)(hy:qE r y):qE r (x+y):=
 ⟨fun e=>by have:=hx.1 e;have:=hy.1 e;grind,fun e=>by have:=hx.2.1 e;have:=hy.2.1 e;grind,fun e=>by have:=hx.2.2 e;have:=hy.2.2 e;grind⟩
theorem afF{r:Int}{x k:Rat}(hx:qE r x)(hk:0≤k):qE r (k*x):=
 ⟨fun e=>by have:=hx.1 e;have:0≤k*(-x):=Rat.mul_nonneg hk (by grind)
            grind,fun e=>by have:=hx.2.1 e;rw[this];grind,fun e=>Rat.mul_nonneg hk (hx.2.2 e)⟩
theorem gq.move{t:Rat}{x r:Nat→Rat}(hx:p.gq t x)(hr:p.gq 0 r){k:Rat}(hk:0≤k):p.gq t (fun j=>x j+k*r j):=by
 refine⟨fun j hj hf=> ?_,fun i hi=> ?_⟩
 ·have h1:=hx.1 j hj hf
  have h2:=Rat.mul_nonneg hk (hr.1 j hj hf)
  grind
 ·have h1:=afE (hx.2 i hi) (afF (hr.2 i hi) hk)
  rw[V9,Wa]
  have e:cH p.n (p.a i) x-p.b i*t+k*(cH p.n (p.a i) r-p.b i*0)=cH p.n (p.a i) x+k*cH p.n (p.a i) r-p.b i*t:=by grind
  rwa [e]at h1
theorem yY.Wd{c x r:Nat→Rat}(h:p.yY c x r):p.KU c:=by
 refine⟨⟨x,h.fp⟩,fun v=> ?_⟩
 have hn:=h.neg
 by_cases hv:cH p.n c x<v
 ·exact⟨x,h.fp,hv⟩
 ·have hd:0 < - cH p.n c r:=by grind
  have hq:0≤(cH p.n c x-v)/(- cH p.n c r):=av.O1 (by grind) hd
  refine⟨_,h.fp.move h.oR (k:=(cH p.n c x-v)/(- cH p.n c r)+1) (by grind),?_⟩
  rw[V9,Wa]
  have e:(cH p.n c x-v)/(- cH p.n c r)*(- cH p.n c r)=cH p.n c x-v:=by grind
  grind
end LP
def iB(f:Nat→Rat):Option Nat→Rat
 | some k=>f k
 | none=>0
structure dL(p:LP)(A:Nat→Nat→Rat)(w u:Nat)(plus:Nat→Nat)(minus slack:Nat→Option Nat)(unit:Nat→Nat)(sg:Nat→Rat):Prop where
 valid:p.Valid
 uw:u≤w
 We:∀i,i<p.m→sg i=1∨sg i = -1
 rhs:∀i,i<p.m→A i w=p.b i*sg i∧0≤A i w
 pl:∀j,j<p.n→plus j<u∧∀i,i<p.m→A i (plus j)=p.a i j*sg i
 mi:∀j,j<p.n→(p.free j=false→minus j=none)∧∀k,minus j=some k→k<u∧∀i,i<p.m→A i k = - (p.a i j*sg i)
 Pc:∀j,j<p.n→p.free j=true→∃k,minus j=some k
 sl:∀i,i<p.m→(p.rel i=2→slack i=none)∧(p.rel i≠2→∃k,slack i=some k)∧∀k,slack i=some k→k<u∧∀q,q<p.m→A q k=if q=i then(if p.rel i=1 then sg i else-sg i)else 0
 un:∀i,i<p.m→unit i<w∧∀q,q<p.m→A q (unit i)=if q=i then 1 else 0
 sum:∀f,aZ u f=aZ p.n (fun j=>f (plus j)+iB f (minus j))+aZ p.m (fun i=>iB f (slack i))
namespace dL
variable {p:LP} {A:Nat→Nat→Rat} {w u:Nat} {plus:Nat→Nat} {minus slack:Nat→Option Nat} {unit:Nat→Nat} {sg:Nat→Rat}
theorem Wf{u w:Nat}(h:u≤w)(f:Nat→Rat)(h0:∀j,u≤j→j<w→f j=0):aZ w f=aZ u f:=by
 induction w with
 | zero=>obtain rfl:u=0:=by omega
         rfl
 | succ w ih=>
  by_cases e:u=w+1
  ·rw[e]
  ·rw[gn,ih (by omega) (fun j h1 h2=>h0 j h1 (by omega)),h0 w (by omega) (by omega)];grind
def vec(plus:Nat→Nat)(minus:Nat→Option Nat)(z:Nat→Rat)(j:Nat):Rat:=z (plus j)-iB z (minus j)
theorem meets(L:dL p A w u plus minus slack unit sg){z:Nat→Rat}{t:Rat}(hs:∀i,i<p.m→aZ (w+1) (fun j=>A i j*z j)=0)(hw:z w = - t)
  (hn:∀j,j<u→0≤z j) (ha:∀j,u≤j→j<w→z j=0):p.gq t (vec plus minus z):=by
 refine⟨fun j hj hf=> ?_,fun i hi=> ?_⟩
 ·unfold vec
  rw[(L.mi j hj).1 hf]
  have:=hn _ (L.pl j hj).1
  simp only[iB];grind
 ·have h1:=hs i hi
  rw[gn,hw,Wf L.uw _ (fun j h1 h2=>by rw[ha j h1 h2];grind),L.sum]at h1
  have h2:aZ p.n (fun j=>A i (plus j)*z (plus j)+iB (fun k=>A i k*z k) (minus j))=cH p.n (p.a i) (vec plus minus z)*sg i:=by
   unfold cH
   rw[←vF]
   refine eG fun j hj=> ?_
   rw[(L.pl j hj).2 i hi]
   unfold vec
   cases hm:minus j with
   | none=>simp only[iB];grind
   | some k=>
    have:=((L.mi j hj).2 k hm).2 i hi
    simp only[iB,this];grind
  rw[h2]at h1
  have h3:aZ p.m (fun q=>iB (fun k=>A i k*z k) (slack q))=iB (fun k=>A i k*z k) (slack i):=by
   refine tW hi _ fun q hq bA=> ?_
   cases hm:slack q with
   | none=>rfl
   | some k=>
    have:=((L.sl q hq).2.2 k hm).2 i hi
    rw[if_neg (fun e=>bA e.symm)]at this
    simp only[iB,this];grind
  rw[h3,(L.rhs i hi).1]at h1
  have sx:=L.We i hi
  have ka:=L.sl i hi
  have key:∀s:Rat,cH p.n (p.a i) (vec plus minus z)*sg i+s*sg i+p.b i*sg i * -t=0→cH p.n (p.a i) (vec plus minus z)-p.b i*t = - s:=by
   intro s hs
   rcases sx with e | e <;> rw[e]at hs <;> grind
  rcases L.valid i hi with e | e | e
  ·obtain⟨k,hk⟩:=ka.2.1 (by omega)
   have h4:=ka.2.2 k hk
   have h5:=h4.2 i hi
   rw[if_pos rfl,if_pos e]at h5
   have h6:=hn k h4.1
   rw[hk]at h1
   simp only[iB,h5]at h1
   have h7:=key (z k) (by grind)
   exact⟨fun _=>by grind,fun e'=>by omega,fun e'=>by omega⟩
  ·rw[ka.1 e]at h1
   simp only[iB]at h1
   have h7:=key 0 (by grind)
   exact⟨fun e'=>by omega,fun _=>by grind,fun e'=>by omega⟩
  ·obtain⟨k,hk⟩:=ka.2.1 (by omega)
   have h4:=ka.2.2 k hk
   have h5:=h4.2 i hi
   rw[if_pos rfl,if_neg (by omega)]at h5
   have h6:=hn k h4.1
   rw[hk]at h1
   simp only[iB,h5]at h1
   have h7:=key (- z k) (by grind)
   exact⟨fun e'=>by omega,fun e'=>by omega,fun _=>by grind⟩
def tY(A:Nat→Nat→Rat)(m w:Nat)(c0 c:Nat→Rat):Prop:=∃l:Nat→Rat,∀j,j≤w→c j=c0 j-aZ m (fun k=>l k*A k j)
section
variable (L:dL p A w u plus minus slack unit sg) {c0 c:Nat→Rat} (ho:tY A p.m w c0 c)
include L ho
theorem Pd:(∀j,j<p.n→p.kE (fun i=>sg i*(c0 (unit i)-c (unit i))) j=c0 (plus j)-c (plus j)∧∀k,minus j=some k→p.kE (fun i=>sg i*(c0 (unit i)-c (unit i))) j=c k-c0 k)
  ∧p.xe (fun i=>sg i*(c0 (unit i)-c (unit i)))=c0 w-c w∧(∀i,i<p.m→∀k,slack i=some k→sg i*(c0 (unit i)-c (unit i))=if p.rel i=1 then c0 k-c k else c k-c0 k):=by
 obtain⟨l,hl⟩:=ho
 have hu:∀i,i<p.m→c0 (unit i)-c (unit i)=l i:=fun i hi=>by
  have h1:=L.un i hi
  rw[hl _ (by omega),tW hi (fun k=>l k*A k (unit i)) (fun q hq bA=>by rw[h1.2 q hq,if_neg bA];grind),h1.2 i hi,if_pos rfl];grind
 refine⟨fun j hj=>⟨?_,fun k hk=> ?_⟩,?_,fun i hi k hk=> ?_⟩
 ·have h1:=L.pl j hj
  have bP:=L.uw
  rw[hl _ (by omega)]
  unfold LP.kE
  rw[eG (g:=fun k=>l k*A k (plus j)) (fun i hi=>by show sg i*(c0 (unit i)-c (unit i))*_=_;rw[hu i hi,h1.2 i hi];grind)]
  grind
 ·have h1:=(L.mi j hj).2 k hk
  have bP:=L.uw
  rw[hl _ (by omega)]
  unfold LP.kE
  rw[eG (g:=fun q=> - (l q*A q k)) (fun i hi=>by show sg i*(c0 (unit i)-c (unit i))*_=_;rw[hu i hi,h1.2 i hi];grind),KN]
  grind
 ·rw[hl _ (Nat.le_refl _)]
  unfold LP.xe
  rw[eG (g:=fun k=>l k*A k w) (fun i hi=>by show sg i*(c0 (unit i)-c (unit i))*_=_;rw[hu i hi,(L.rhs i hi).1];grind)]
  grind
 ·have h1:=(L.sl i hi).2.2 k hk
  have bP:=L.uw
  rw[hu i hi,hl k (by omega),tW hi (fun q=>l q*A q k) (fun q hq bA=>by rw[h1.2 q hq,if_neg bA];grind),h1.2 i hi,if_pos rfl]
  split <;> grind
theorem Wg(h0:∀i,i<p.m→∀k,slack i=some k→c0 k=0)(hn:∀j,j<u→0≤c j):p.Signed (fun i=>sg i*(c0 (unit i)-c (unit i))):=fun i hi=>by
 have h1:=(Pd L ho).2.2 i hi
 refine⟨fun e=> ?_,fun e=> ?_⟩
 ·obtain⟨k,hk⟩:=(L.sl i hi).2.1 (by omega)
  have h2:=h1 k hk
  have h3:=hn k ((L.sl i hi).2.2 k hk).1
  rw[if_neg (by omega),h0 i hi k hk]at h2
  simp only[h2];grind
 ·obtain⟨k,hk⟩:=(L.sl i hi).2.1 (by omega)
  have h2:=h1 k hk
  have h3:=hn k ((L.sl i hi).2.2 k hk).1
  rw[if_pos e,h0 i hi k hk]at h2
  simp only[h2];grind
theorem afG(h0:∀j,j<u→c0 j=0)(hw:c0 w=0)(hn:∀j,j<u→0≤c j)(gg:c w<0):p.yX (fun i=>sg i*(c0 (unit i)-c (unit i))):=by
 have hd:=Pd L ho
 refine⟨Wg L ho (fun i hi k hk=>h0 k ((L.sl i hi).2.2 k hk).1) hn,fun j hj=>⟨?_,fun hf=> ?_⟩,?_⟩
 ·have h1:=L.pl j hj
  rw[(hd.1 j hj).1,h0 _ h1.1]
  have:=hn _ h1.1
  grind
 ·obtain⟨k,hk⟩:=L.Pc j hj hf
  have h1:=(L.mi j hj).2 k hk
  rw[(hd.1 j hj).2 k hk,h0 k h1.1]
  have:=hn _ h1.1
  grind
 ·rw[hd.2.1,hw];grind
end
end dL
end Lp
namespace Lp
namespace av
structure Rows(A:Nat→Nat→Rat)(m' w:Nat)(T:av):Prop where
 m:T.m=m'
 n:T.n=w
 mul:∃R:Nat→Nat→Rat,∀i,i<m'→∀j,j≤w→T.A i j=aZ m' (fun k=>R i k*A k j)
 nN:∀x,T.pO x↔∀i,i<m'→aZ (w+1) (fun j=>A i j*x j)=0
section
variable {A:Nat→Nat→Rat} {m w:Nat} {T:av}
theorem afH(hA:∀i j,T.A i j=A i j)(hm:T.m=m)(hn:T.n=w):Rows A m w T:=by
 refine⟨hm,hn,⟨fun i k=>if k=i then 1 else 0,fun i hi j _=> ?_⟩,fun x=> ?_⟩
 ·rw[tW hi (fun k=>(if k=i then 1 else 0)*A k j) (fun q _ bA=>by rw[if_neg bA];grind),if_pos rfl,hA];grind
 ·unfold pO
  rw[hm,hn]
  constructor
  ·intro h i hi
   rw[←h i hi]
   exact eG fun j _=>by rw[hA]
  ·intro h i hi
   rw[←h i hi]
   exact eG fun j _=>by rw[hA]
theorem Rows.pivot(h:Rows A m w T){r s:Nat}(hr:r<m)(hp:T.A r s≠0):Rows A m w (T.pivot r s):=by
 obtain⟨R,hR⟩:=h.mul
 refine⟨h.m,h.n,⟨fun i k=>if i=r then R r k/T.A r s else R i k-T.A i s*(R r k/T.A r s),fun i hi j hj=> ?_⟩,fun x=> ?_⟩
 ·have e1:aZ m (fun k=>R r k/T.A r s*A k j)=T.A r j/T.A r s:=by
   rw[hR r hr j hj,Rat.div_def,←vF]
   exact eG fun k _=>by grind
  by_cases e:i=r
  ·simp only[av.pivot,if_pos e]
   exact e1.symm
  ·simp only[av.pivot,if_neg e]
   rw[←e1,hR i hi j hj,←tV,←Gh]
   exact eG fun k _=>by grind
 ·rw[O0 (by rw[h.m];exact hr) hp,h.nN]
theorem Rows.off(h:Rows A m w T)(c0 f:Nat→Rat){c:Nat→Rat}(hc:∀j,j≤w→c j=c0 j-aZ m (fun i=>f i*T.A i j)):dL.tY A m w c0 c:=by
 obtain⟨R,hR⟩:=h.mul
 refine⟨fun k=>aZ m (fun i=>f i*R i k),fun j hj=> ?_⟩
 rw[hc j hj]
 congr 1
 rw[eG (g:=fun i=>aZ m (fun k=>f i*R i k*A k j)) (fun i hi=>by rw[hR i hi j hj,←tV];exact eG fun k _=>by grind),KP]
 exact eG fun k _=>vF _ _ _
theorem Rows.Pe(h:Rows A m w T){c0:Nat→Rat}(ho:dL.tY A m w c0 T.c){r s:Nat}(hr:r<m):dL.tY A m w c0 (T.pivot r s).c:=by
 obtain⟨R,hR⟩:=h.mul
 obtain⟨l,hl⟩:=ho
 refine⟨fun k=>l k+T.c s*(R r k/T.A r s),fun j hj=> ?_⟩
 show T.c j-T.c s*(T.A r j/T.A r s)=_
 have e1:aZ m (fun k=>R r k/T.A r s*A k j)=T.A r j/T.A r s:=by
  rw[hR r hr j hj,Rat.div_def,←vF]
  exact eG fun k _=>by grind
 have e2:aZ m (fun k=>(l k+T.c s*(R r k/T.A r s))*A k j)=aZ m (fun k=>l k*A k j)+T.c s*aZ m (fun k=>R r k/T.A r s*A k j):=by
  rw[←tV,←Gg]
  exact eG fun k _=>by grind
 rw[e2,e1,hl j hj]
 grind
theorem Rows.cost(h:Rows A m w T){c0:Nat→Rat}(ho:dL.tY A m w c0 T.c){x:Nat→Rat}(hx:T.pO x):T.cost x=aZ (w+1) (fun j=>c0 j*x j):=by
 obtain⟨l,hl⟩:=ho
 unfold av.cost
 rw[h.n]
 have e1:aZ (w+1) (fun j=>aZ m (fun k=>l k*A k j)*x j)=0:=by
  rw[eG (g:=fun j=>aZ m (fun k=>l k*(A k j*x j))) (fun j _=>by rw[←vF];exact eG fun k _=>by grind),KP]
  refine lA fun k hk=> ?_
  rw[tV,(h.nN x).1 hx k hk];grind
 rw[eG (g:=fun j=>c0 j*x j-aZ m (fun k=>l k*A k j)*x j) (fun j hj=>by rw[hl j (by omega)];grind),Gh,e1]
 grind
end
def pt(T:av)(j:Nat):Rat:=if j=T.n then -1 else aZ T.m (fun i=>if T.B i=j then T.A i T.n else 0)
section
variable {T:av}
theorem Wh(h:T.WF)(j:Nat):T.pt j = - T.dir T.n j:=by
 unfold pt dir
 by_cases e:j=T.n
 ·rw[if_pos e,if_pos e,lA]
  ·grind
  ·intro i hi
   have:=h.lt i hi
   rw[if_neg (by omega)]
 ·rw[if_neg e,if_neg e];grind
theorem Pf(h:T.WF):T.pO T.pt:=fun i hi=>by
 have:=yT h T.n (Nat.le_refl _) i hi
 rw[eG (g:=fun j=> - (T.A i j*T.dir T.n j)) (fun j _=>by rw[Wh h];grind),KN,this];grind
theorem Wi(h:T.WF):T.cost T.pt = - T.c T.n:=by
 have:=DF h T.n (Nat.le_refl _)
 unfold cost at this⊢
 rw[eG (g:=fun j=> - (T.c j*T.dir T.n j)) (fun j _=>by rw[Wh h];grind),KN,this]
theorem Wj(h:T.WF){i:Nat}(hi:i<T.m):T.pt (T.B i)=T.A i T.n:=by
 have:=h.lt i hi
 unfold pt
 rw[if_neg (by omega),tW hi,if_pos rfl]
 intro k hk bA
 rw[if_neg (fun e=>bA (h.inj hk hi e))]
theorem Wk(hf:T.jQ){j:Nat}(hj:j<T.n):0≤T.pt j:=by
 unfold pt
 rw[if_neg (by omega)]
 refine Gi fun i hi=> ?_
 split
 ·exact hf i hi
 ·exact Rat.le_refl
theorem Wl{j:Nat}(hj:j<T.n)(h:∀i,i<T.m→T.B i=j→T.A i T.n=0):T.pt j=0:=by
 unfold pt
 rw[if_neg (by omega)]
 refine lA fun i hi=> ?_
 split
 ·rename_i e;exact h i hi e
 ·rfl
theorem Wm{s:Nat}(h:∀i,i<T.m→T.A i s≤0)(j:Nat):0≤T.dir s j:=by
 unfold dir
 have h1:0≤aZ T.m (fun i=> - (if T.B i=j then T.A i s else 0)):=Gi fun i hi=>by
  split
  ·have:=h i hi;grind
  ·grind
 rw[KN]at h1
 split <;> grind
theorem afI(h:T.WF){s:Nat}(hs:s<T.n):T.dir s T.n=0:=by
 unfold dir
 rw[if_neg (by omega),lA]
 ·grind
 ·intro i hi
  have:=h.lt i hi
  rw[if_neg (by omega)]
theorem afJ{s j:Nat}(hj:j≠s)(h:∀i,i<T.m→T.B i=j→T.A i s=0):T.dir s j=0:=by
 unfold dir
 rw[if_neg hj,lA]
 ·grind
 ·intro i hi
  split
  ·rename_i e;exact h i hi e
  ·rfl
end
def js(u w j:Nat):Rat:=if u≤j∧j<w then 1 else 0
theorem Wn(u w j:Nat):0≤js u w j:=by
 unfold js;split <;> grind
theorem Pg{u w j:Nat}(h:j<u):js u w j=0:=by
 unfold js;rw[if_neg (by omega)]
theorem Wo(u w:Nat):js u w w=0:=by
 unfold js;rw[if_neg (by omega)]
section
variable {A:Nat→Nat→Rat} {m w u:Nat} {T:av}
theorem afK(hW:T.WF)(h:Rows A m w T)(ho:dL.tY A m w (js u w) T.c){s:Nat}(hs:s<w)(gg:T.c s<0)(hA:∀i,i<T.m→T.A i s≤0):False:=by
 have h1:=DF hW s (by rw[h.n];omega)
 rw[h.cost ho (yT hW s (by rw[h.n];omega))]at h1
 have h2:0≤aZ (w+1) (fun j=>js u w j*T.dir s j):=Gi fun j _=>Rat.mul_nonneg (Wn u w j) (Wm hA j)
 grind
theorem afL{n k:Nat}(f:Nat→Rat)(h:∀i,i<n→0≤f i)(hk:k<n):f k≤aZ n f:=by
 induction n with
 | zero=>omega
 | succ n ih=>
  rw[gn]
  have h0:=h n (by omega)
  by_cases e:k=n
  ·subst e
   have:0≤aZ k f:=Gi fun i hi=>h i (by omega)
   grind
  ·have:=ih (fun i hi=>h i (by omega)) (by omega)
   grind
theorem Wp(hW:T.WF)(hF:T.jQ)(h:Rows A m w T)(ho:dL.tY A m w (js u w) T.c)(hv:0≤T.c w):T.c w=0∧∀i,i<T.m→u≤T.B i→T.A i T.n=0:=by
 have h1:=Wi hW
 rw[h.cost ho (Pf hW),h.n]at h1
 have h0:∀j,j<w+1→0≤js u w j*T.pt j:=fun j hj=>by
  by_cases e:j=w
  ·subst e;rw[Wo];grind
  ·exact Rat.mul_nonneg (Wn u w j) (Wk hF (by rw[h.n];omega))
 have h2:=Gi h0
 refine⟨by grind,fun i hi hu=> ?_⟩
 have bP:=hW.lt i hi
 have h3:=afL _ h0 (k:=T.B i) (by rw[h.n]at bP;omega)
 have Wq:=bP
 rw[h.n]at Wq
 rw[Wj hW hi]at h3
 have e:js u w (T.B i)=1:=by unfold js;rw[if_pos ⟨hu,Wq⟩]
 rw[e]at h3
 have:=hF i hi
 grind
end
structure Clean(u k:Nat)(T:av):Prop where
 zero:∀i,i<T.m→u≤T.B i→T.A i T.n=0
 row:∀i,i<k→i<T.m→u≤T.B i→∀j,j<u→T.A i j=0
section
variable {u k:Nat} {T:av}
theorem Clean.start(h:∀i,i<T.m→u≤T.B i→T.A i T.n=0):Clean u 0 T:=⟨h,fun i hi=>by omega⟩
theorem Clean.skip(h:Clean u k T)(hk:T.B k<u∨∀j,j<u→T.A k j=0):Clean u (k+1) T:=by
 refine⟨h.zero,fun i hi hm hu=> ?_⟩
 by_cases e:i=k
 ·subst e
  rcases hk with hk | hk
  ·omega
  ·exact hk
 ·exact h.row i (by omega) hm hu
theorem Clean.afM(h:Clean u k T)(hk:k<T.m)(hu:u≤T.B k){s:Nat}(hs:s<u):Clean u (k+1) (T.pivot k s):=by
 have hz:=h.zero k hk hu
 refine⟨fun i hi hb=> ?_,fun i hi hm hb j hj=> ?_⟩
 ·have eZ:i<T.m:=hi
  simp only[av.pivot]at hb⊢
  by_cases e:i=k
  ·rw[if_pos e]at hb;omega
  ·rw[if_neg e]at hb⊢
   rw[h.zero i eZ hb,hz,Rat.div_def];grind
 ·have bL:i<T.m:=hm
  simp only[av.pivot]at hb⊢
  by_cases e:i=k
  ·rw[if_pos e]at hb;omega
  ·rw[if_neg e]at hb⊢
   rw[h.row i (by omega) bL hb j hj,h.row i (by omega) bL hb s hs];grind
theorem Clean.fp(h:Clean u k T)(hF:T.jQ)(hk:k<T.m)(hu:u≤T.B k)(s:Nat):(T.pivot k s).jQ:=fun i hi=>by
 have eZ:i<T.m:=hi
 have hz:=h.zero k hk hu
 have h1:=hF i eZ
 show 0≤(if i=k then T.A k T.n/T.A k s else T.A i T.n-T.A i s*(T.A k T.n/T.A k s))
 rw[hz]
 split
 ·rw[Rat.div_def];grind
 ·rw[Rat.div_def];grind
theorem Clean.Gn(h:Clean u T.m T){r s:Nat}(hb:T.oQ u r s):Clean u (T.pivot r s).m (T.pivot r s):=by
 have hr:T.B r<u:=by
  false_or_by_contra
  have:=h.row r hb.rm hb.rm (by omega) s hb.su
  have:=hb.pos
  grind
 have hs:=hb.su
 refine⟨fun i hi hu=> ?_,fun i _ hi hu j hj=> ?_⟩
 ·have eZ:i<T.m:=hi
  simp only[av.pivot]at hu⊢
  by_cases e:i=r
  ·rw[if_pos e]at hu;omega
  ·rw[if_neg e]at hu⊢
   rw[h.zero i eZ hu,h.row i eZ eZ hu s hs];grind
 ·have eZ:i<T.m:=hi
  simp only[av.pivot]at hu⊢
  by_cases e:i=r
  ·rw[if_pos e]at hu;omega
  ·rw[if_neg e]at hu⊢
   rw[h.row i eZ eZ hu j hj,h.row i eZ eZ hu s hs];grind
end
structure Gp(p:LP)(w:Nat)(plus:Nat→Nat)(minus slack:Nat→Option Nat)(c c0:Nat→Rat):Prop where
 pl:∀j,j<p.n→c0 (plus j)=c j
 mi:∀j,j<p.n→∀k,minus j=some k→c0 k = - c j
 sl:∀i,i<p.m→∀k,slack i=some k→c0 k=0
 last:c0 w=0
section
variable {p:LP} {A:Nat→Nat→Rat} {w u:Nat} {plus:Nat→Nat} {minus slack:Nat→Option Nat} {unit:Nat→Nat} {sg c c0:Nat→Rat} {T:av}
theorem Wr(L:dL p A w u plus minus slack unit sg)(hc:Gp p w plus minus slack c c0){z:Nat→Rat}(ha:∀j,u≤j→j<w→z j=0):
  aZ (w+1) (fun j=>c0 j*z j)=cH p.n c (dL.vec plus minus z):=by
 rw[gn,hc.last,dL.Wf L.uw _ (fun j h1 h2=>by rw[ha j h1 h2];grind),L.sum]
 have h1:aZ p.m (fun i=>iB (fun j=>c0 j*z j) (slack i))=0:=lA fun i hi=>by
  cases hs:slack i with
  | none=>rfl
  | some k=>simp only[iB];rw[hc.sl i hi k hs];grind
 rw[h1]
 unfold cH dL.vec
 have h2:aZ p.n (fun j=>c0 (plus j)*z (plus j)+iB (fun j=>c0 j*z j) (minus j))=aZ p.n (fun j=>c j*(z (plus j)-iB z (minus j))):=eG fun j hj=>by
  rw[hc.pl j hj]
  cases hm:minus j with
  | none=>simp only[iB];grind
  | some k=>simp only[iB];rw[hc.mi j hj k hm];grind
 rw[h2];grind
theorem Ws(hC:Clean u T.m T){j:Nat}(h1:u≤j)(h2:j<T.n):T.pt j=0:=Wl h2 fun i hi e=>hC.zero i hi (by omega)
theorem Wt(L:dL p A w u plus minus slack unit sg)(hW:T.WF)(hF:T.jQ)(h:Rows A p.m w T)(hC:Clean u T.m T):p.gq 1 (dL.vec plus minus T.pt):=by
 have hu:=L.uw
 refine L.meets ((h.nN _).1 (Pf hW)) ?_ (fun j hj=>Wk hF (by rw[h.n];omega)) (fun j h1 h2=>Ws hC h1 (by rw[h.n];omega))
 unfold pt
 rw[if_pos h.n.symm]
theorem Wu(L:dL p A w u plus minus slack unit sg)(hW:T.WF)(h:Rows A p.m w T)(hC:Clean u T.m T)(hc:Gp p w plus minus slack c c0)(ho:dL.tY A p.m w c0 T.c):
  cH p.n c (dL.vec plus minus T.pt) = - T.c w:=by
 rw[←Wr L hc (fun j h1 h2=>Ws hC h1 (by rw[h.n];omega)),←h.cost ho (Pf hW),Wi hW,h.n]
theorem afN(L:dL p A w u plus minus slack unit sg)(hW:T.WF)(hF:T.jQ)(h:Rows A p.m w T)(hC:Clean u T.m T)(hc:Gp p w plus minus slack c c0)(ho:dL.tY A p.m w c0 T.c)(hn:∀j,j<u→0≤T.c j):
  p.yW c (dL.vec plus minus T.pt) (fun i=>sg i*(c0 (unit i)-T.c (unit i))):=by
 have hd:=dL.Pd L ho
 refine⟨Wt L hW hF h hC,dL.Wg L ho (fun i hi k hk=>hc.sl i hi k hk) hn,fun j hj=>⟨?_,fun hf=> ?_⟩,?_⟩
 ·have h1:=L.pl j hj
  rw[(hd.1 j hj).1,hc.pl j hj]
  have:=hn _ h1.1
  grind
 ·obtain⟨k,hk⟩:=L.Pc j hj hf
  have h1:=(L.mi j hj).2 k hk
  rw[(hd.1 j hj).2 k hk,hc.mi j hj k hk]
  have:=hn _ h1.1
  grind
 ·rw[hd.2.1,hc.last,Wu L hW h hC hc ho];grind
theorem afO(L:dL p A w u plus minus slack unit sg)(hW:T.WF)(hF:T.jQ)(h:Rows A p.m w T)(hC:Clean u T.m T)(hc:Gp p w plus minus slack c c0)(ho:dL.tY A p.m w c0 T.c){s:Nat}(hs:s<u)(gg:T.c s<0)
  (hA:∀i,i<T.m→T.A i s≤0):p.yY c (dL.vec plus minus T.pt) (dL.vec plus minus (T.dir s)):=by
 have hu:=L.uw
 have mB:s<T.n:=by rw[h.n];omega
 have ha:∀j,u≤j→j<w→T.dir s j=0:=fun j h1 h2=>afJ (by omega) fun i hi e=>hC.row i hi hi (by omega) s hs
 refine⟨Wt L hW hF h hC,L.meets ((h.nN _).1 (yT hW s (by omega))) ?_ (fun j _=>Wm hA j) ha,?_⟩
 ·have:=afI hW mB
  rw[h.n]at this
  rw[this];grind
 ·rw[←Wr L hc ha,←h.cost ho (yT hW s (by omega)),DF hW s (by omega)]
  exact gg
end
end av
end Lp
namespace Lp
structure Prg where
 free:List Bool
 rows:List (List Rat×Int×Rat)
def fn(l:List Rat)(j:Nat):Rat:=l.getD j 0
theorem m8{l:List Rat}{j:Nat}{q:Rat}(h:l[j]? = some q):fn l j=q:=by simp[fn,List.getD,h]
theorem afP{l:List Rat}{j:Nat}(h:l.length≤j):fn l j=0:=by simp[fn,List.getD,List.getElem?_eq_none h]
def Prg.row(p:Prg)(i:Nat):List Rat×Int×Rat:=p.rows.getD i ([],0,0)
theorem Prg.qF{p:Prg}{i:Nat}{r:List Rat×Int×Rat}(h:p.rows[i]? = some r):p.row i=r:=by simp[Prg.row,List.getD,h]
def Prg.lp(p:Prg):LP:=⟨p.free.length,p.rows.length,fun j=>p.free.getD j false,fun i j=>fn (p.row i).1 j,fun i=>(p.row i).2.1,fun i=>(p.row i).2.2⟩
theorem Prg.Bh{p:Prg}{j:Nat}{b:Bool}(h:p.free[j]? = some b):p.lp.free j=b:=by simp[Prg.lp,List.getD,h]
def Wv(n:Nat)(r:List Rat×Int×Rat):Prop:=r.1.length=n∧(r.2.1=1∨r.2.1=2∨r.2.1=3)
structure Prg.Ok(p:Prg):Prop where
 pP:p.free.length≤400
 rows:p.rows.length≤800
 row:∀(i:Nat)(r:List Rat×Int×Rat),p.rows[i]? = some r→Wv p.free.length r
theorem Prg.Ok.valid{p:Prg}(h:p.Ok):p.lp.Valid:=fun i hi=>by
 have eZ:i<p.rows.length:=hi
 have:=(h.row i _ (List.getElem?_eq_getElem eZ)).2
 show (p.row i).2.1=1∨(p.row i).2.1=2∨(p.row i).2.1=3
 rwa [Prg.qF (List.getElem?_eq_getElem eZ)]
structure Ww(p:Prg)(x:List Rat):Prop where
 ok:p.Ok
 len:x.length=p.free.length
 meets:p.lp.gq 1 (fn x)
structure Ph(p:Prg)(c x y:List Rat):Prop where
 fp:Ww p x
 afQ:c.length=p.free.length
 afR:y.length=p.rows.length
 cert:p.lp.yW (fn c) (fn x) (fn y)
structure Wx(p:Prg)(y:List Rat):Prop where
 ok:p.Ok
 afR:y.length=p.rows.length
 cert:p.lp.yX (fn y)
structure Wy(p:Prg)(c x r:List Rat):Prop where
 fp:Ww p x
 afQ:c.length=p.free.length
 iC:r.length=p.free.length
 cert:p.lp.yY (fn c) (fn x) (fn r)
structure xg where
 status:Int
 value:Rat
 x:List Rat
 sy:List Rat
 oR:List Rat
def Bi(p:Prg)(c:List Rat)(s:xg):Prop:=
 (s.status=1∧s.oR = []∧Ph p c s.x s.sy∧s.value=cH p.free.length (fn c) (fn s.x))∨
 (s.status=2∧s.value=0∧s.x = []∧s.oR = []∧c.length=p.free.length∧Wx p s.sy)∨
 (s.status=3∧s.value=0∧s.sy = []∧Wy p c s.x s.oR)
theorem Bi.KV{p:Prg}{c:List Rat}{s:xg}(h:Bi p c s):(s.status=1∧p.lp.Gm (fn c) s.value)∨(s.status=2∧p.lp.yZ∧s.value=0)∨(s.status=3∧p.lp.KU (fn c)∧s.value=0):=by
 rcases h with ⟨h1,_,h2,h3⟩ | ⟨h1,h2,_,_,_,h3⟩ | ⟨h1,h2,_,h3⟩
 ·exact .inl ⟨h1,by rw[h3];exact h2.cert.Wc h2.fp.ok.valid⟩
 ·exact .inr (.inl ⟨h1,h3.cert.isInf h3.ok.valid,h2⟩)
 ·exact .inr (.inr ⟨h1,h3.cert.Wd,h2⟩)
theorem Bi.at1{p:Prg}{c:List Rat}{S:xg}(h:Bi p c S)(e:S.status=1):S.oR = []∧Ph p c S.x S.sy∧S.value=cH p.free.length (fn c) (fn S.x):=by
 rcases h with ⟨_,h⟩ | ⟨h1,_⟩ | ⟨h1,_⟩
 ·exact h
 ·omega
 ·omega
end Lp
namespace Go.aq
open Go.Proofs Num
theorem afS(p q:Rat):((p.num*(q.den:Int)+q.num*(p.den:Int):Int):Rat)/(((p.den:Int)*(q.den:Int):Int):Rat)=p+q:=by
 have h1:=tO p
 have h2:=tO q
 have h3:=DB p
 have h4:=DB q
 rw[Rat.intCast_add,Rat.intCast_mul,Rat.intCast_mul,Rat.intCast_mul]
 grind
theorem afT(p q:Rat):((p.num*q.num:Int):Rat)/(((p.den:Int)*(q.den:Int):Int):Rat)=p*q:=by
 have h1:=tO p
 have h2:=tO q
 have h3:=DB p
 have h4:=DB q
 rw[Rat.intCast_mul,Rat.intCast_mul]
 grind
theorem afU{q:Rat}(h:q≠0):((q.num:Int):Rat)≠0:=fun e=>h (by
 have:q.num=0:=by exact_mod_cast e
 exact Rat.num_eq_zero.1 this)
theorem Wz(p:Rat){q:Rat}(h:q≠0):((p.num*(q.den:Int):Int):Rat)/(((p.den:Int)*q.num:Int):Rat)=p/q:=by
 have h1:=tO p
 have h2:=tO q
 have h3:=DB p
 have h4:=DB q
 have h5:=afU h
 rw[Rat.intCast_mul,Rat.intCast_mul]
 grind
theorem afV(p:Rat){q:Rat}(h:q≠0):((-p.num*(q.den:Int):Int):Rat)/((-(p.den:Int)*q.num:Int):Rat)=p/q:=by
 rw[←Wz p h,Int.neg_mul,Int.neg_mul,Rat.intCast_neg,Rat.intCast_neg]
 grind
theorem afW{H:Heap}{us vs:List Value}{p q:Rat}{N:Nat}(hu:bQ H us p)(hv:bQ H vs q)(h1:aM p≤N)(h2:aM q≤N)(hN:(N:Int)≤1099511627776):
 Fn Tryz.prog 158 #[.agg us.toArray,.agg vs.toArray] H (tM H (p+q)):=by
 obtain⟨n1,d1,b1,rfl,dU⟩:=id hu
 obtain⟨n2,d2,b2,rfl,dg⟩:=id hv;refine aY (args:=[_,_]) Tryz.func158 rfl rfl Tryz.ntmps158 rfl rfl fun w0=> ?_;refine ah [0,1] rfl ?_;refine ae (bZ rfl rfl (bZ rfl rfl (bm fh rfl (ab [2,3,4] ?_))));refine ao ?_
 cases pQ:w9 n1 d1 b1
 ·
  skip
  refine ae (aa 1 rfl (aB rfl rfl (oP) ?_));rintro v1 H1 ⟨e1,rfl⟩;rw[e1,pQ];refine aa 4 rfl (ab [2,3,4,10] ?_);refine dd rfl (aw (ah [2,3,4] rfl ?_));refine bN .bK [0,2,1,3,4,5,6] follows (by kernel_rfl) ?_;refine aa 2 rfl (aW rfl rfl (sq hu) (fun _ _ h=>by first | exact h.le | exact h.1) ?_);rintro w1 G1 ⟨fo,bX⟩;obtain⟨u1,x1,rfl,eS,fK⟩:=id bX;obtain⟨mu,my,rfl,mz,mA⟩:=id eS;obtain⟨tP,tQ,rfl,tR,tS⟩:=id fK;refine aW rfl rfl (sq (hv.le fo)) (fun _ _ h=>by first | exact h.le | exact h.1) ?_;rintro w2 G2 ⟨dP,bS⟩;obtain⟨u2,x2,rfl,fS,eT⟩:=id bS;obtain⟨oG,oH,rfl,oI,oJ⟩:=id fS;obtain⟨oK,oL,rfl,oM,oN⟩:=id eT;refine aW rfl rfl (VQ (N:=N) ((bX.le dP).raw.mono h1) (bS.raw.mono h2) hN) (fun _ _ h=>by first | exact h.le | exact h.1) ?_;rintro w3 G3 ⟨qG,iD⟩;obtain⟨u3,x3,rfl,oS,ic⟩:=id iD;obtain⟨Bj,Bk,rfl,Bl,Bm⟩:=id oS;obtain⟨Bn,Bo,rfl,Bp,Bq⟩:=id ic;refine aW rfl rfl (yS iD) (fun _ _ h=>by first | exact h.le | exact h.1) ?_;rintro w4 G4 ⟨kZ,Gq,rfl,cn⟩;obtain⟨n4,d4,b4,rfl,_⟩:=id cn;obtain⟨ti,aj,ak⟩:=cL;refine aI (.inl ⟨rfl,rfl⟩) rfl rfl rfl aj ak rfl rfl rfl (ab [4] ?_)
  obtain⟨b8,aP,aQ⟩:=cL;refine az ⟨.inr rfl,_,.agg rfl Tryz.underlying121 aP aQ (.nil),?_⟩;exact⟨((fo.trans dP).trans qG).trans kZ,_,rfl,cn⟩
 ·
  skip
  cases pR:w9 n2 d2 b2
  ·
   skip
   refine ae (aa 1 rfl (aB rfl rfl (oP) ?_));rintro v1 H1 ⟨e1,rfl⟩;rw[e1,pQ];refine aa 2 rfl (aB rfl rfl (oP) ?_);rintro v1 H1 ⟨e1,rfl⟩;rw[e1,pR];refine aa 1 rfl (ab [2,3,4,10] ?_);refine dd rfl (aw (ah [2,3,4] rfl ?_));refine bN .bK [0,2,1,3,4,5,6] follows (by kernel_rfl) ?_;refine aa 2 rfl (aW rfl rfl (sq hu) (fun _ _ h=>by first | exact h.le | exact h.1) ?_);rintro w1 G1 ⟨fo,bX⟩;obtain⟨u1,x1,rfl,eS,fK⟩:=id bX;obtain⟨mu,my,rfl,mz,mA⟩:=id eS;obtain⟨tP,tQ,rfl,tR,tS⟩:=id fK;refine aW rfl rfl (sq (hv.le fo)) (fun _ _ h=>by first | exact h.le | exact h.1) ?_;rintro w2 G2 ⟨dP,bS⟩;obtain⟨u2,x2,rfl,fS,eT⟩:=id bS;obtain⟨oG,oH,rfl,oI,oJ⟩:=id fS;obtain⟨oK,oL,rfl,oM,oN⟩:=id eT;refine aW rfl rfl (VQ (N:=N) ((bX.le dP).raw.mono h1) (bS.raw.mono h2) hN) (fun _ _ h=>by first | exact h.le | exact h.1) ?_;rintro w3 G3 ⟨qG,iD⟩;obtain⟨u3,x3,rfl,oS,ic⟩:=id iD;obtain⟨Bj,Bk,rfl,Bl,Bm⟩:=id oS;obtain⟨Bn,Bo,rfl,Bp,Bq⟩:=id ic;refine aW rfl rfl (yS iD) (fun _ _ h=>by first | exact h.le | exact h.1) ?_;rintro w4 G4 ⟨kZ,Gq,rfl,cn⟩;obtain⟨n4,d4,b4,rfl,_⟩:=id cn;obtain⟨ti,aj,ak⟩:=cL;refine aI (.inl ⟨rfl,rfl⟩) rfl rfl rfl aj ak rfl rfl rfl ?_
   refine ab [4] ?_;obtain⟨b8,aP,aQ⟩:=cL;refine az ⟨.inr rfl,_,.agg rfl Tryz.underlying121 aP aQ (.nil),?_⟩;exact⟨((fo.trans dP).trans qG).trans kZ,_,rfl,cn⟩
  obtain⟨rfl,k1,k2,k3⟩:=Bc.1 pQ;obtain⟨rfl,k4,k5,k6⟩:=Bc.1 pR;obtain⟨-,rfl,rfl,-⟩:=dU.resolve_right (by rintro⟨ad,f,u,w,h,_⟩;cases h);obtain⟨-,rfl,rfl,-⟩:=dg.resolve_right (by rintro⟨ad,f,u,w,h,_⟩;cases h);have fi:=den_pos p;have dJ:=den_pos q;have m1:=Ba (a:=p.num) (b:=q.den) k1 k2 (by omega) k6;have m2:=Ba (a:=q.num) (b:=p.den) k4 k5 (by omega) k3;have m3:=Ba (a:=p.den) (b:=q.den) (by omega) k3 (by omega) k6;have m4:0<(p.den:Int)*(q.den:Int):=Int.mul_pos (by omega) (by omega);refine ae (aa 1 rfl (aB rfl rfl (oP) ?_));rintro v1 H1 ⟨e1,rfl⟩;rw[e1,pQ];refine aa 2 rfl (aB rfl rfl (oP) ?_);rintro v1 H1 ⟨e1,rfl⟩;rw[e1,pR];refine aa 1 rfl (ab [2,3,4,10] ?_);refine cI rfl (ae (aa 4 rfl (gZ rfl rfl ⟨by omega,by omega⟩ (aa 4 rfl (gZ rfl rfl ⟨by omega,by omega⟩ (aF rfl rfl ⟨by omega,by omega⟩ (aa 4 rfl (gZ rfl rfl ⟨by omega,by omega⟩ (aB rfl rfl (KM (by omega) (by omega) m4 (by omega)) ?_)))))))));rintro w1 G1 ⟨fo,Gr,rfl,bX⟩;rw[afS]at bX;obtain⟨n1,d1,b1,rfl,_⟩:=id bX;obtain⟨ti,aj,ak⟩:=cL;refine aI (.inl ⟨rfl,rfl⟩) rfl rfl rfl aj ak rfl rfl rfl (ab [4] ?_)
  obtain⟨b8,aP,aQ⟩:=cL;refine az ⟨.inr rfl,_,.agg rfl Tryz.underlying121 aP aQ (.nil),?_⟩;exact⟨fo,_,rfl,bX⟩
theorem Gs{H:Heap}{us vs:List Value}{p q:Rat}{N:Nat}(hu:bQ H us p)(hv:bQ H vs q)(h1:aM p≤N)(h2:aM q≤N)(hN:(N:Int)≤1099511627776):
 Fn Tryz.prog 128 #[.agg us.toArray,.agg vs.toArray] H (tM H (p*q)):=by
 obtain⟨n1,d1,b1,rfl,dU⟩:=id hu
 obtain⟨n2,d2,b2,rfl,dg⟩:=id hv;refine aY (args:=[_,_]) Tryz.func128 rfl rfl Tryz.ntmps128 rfl rfl fun w0=> ?_;refine ah [0,1] rfl ?_;refine ae (bZ rfl rfl (bZ rfl rfl (bm fh rfl (ab [2,3,4] ?_))));refine ao ?_
 cases pQ:w9 n1 d1 b1
 ·
  skip
  refine ae (aa 1 rfl (aB rfl rfl (oP) ?_));rintro v1 H1 ⟨e1,rfl⟩;rw[e1,pQ];refine aa 4 rfl (ab [2,3,4,10] ?_);refine dd rfl (aw (ah [2,3,4] rfl ?_));refine bN .bK [0,2,1,3,4,5,6] follows (by kernel_rfl) ?_;refine aa 2 rfl (aW rfl rfl (sq hu) (fun _ _ h=>by first | exact h.le | exact h.1) ?_);rintro w1 G1 ⟨fo,bX⟩;obtain⟨u1,x1,rfl,eS,fK⟩:=id bX;obtain⟨mu,my,rfl,mz,mA⟩:=id eS;obtain⟨tP,tQ,rfl,tR,tS⟩:=id fK;refine aW rfl rfl (sq (hv.le fo)) (fun _ _ h=>by first | exact h.le | exact h.1) ?_;rintro w2 G2 ⟨dP,bS⟩;obtain⟨u2,x2,rfl,fS,eT⟩:=id bS;obtain⟨oG,oH,rfl,oI,oJ⟩:=id fS;obtain⟨oK,oL,rfl,oM,oN⟩:=id eT;refine aW rfl rfl (OT (N:=N) ((bX.le dP).raw.mono h1) (bS.raw.mono h2) hN) (fun _ _ h=>by first | exact h.le | exact h.1) ?_;rintro w3 G3 ⟨qG,iD⟩;obtain⟨u3,x3,rfl,oS,ic⟩:=id iD;obtain⟨Bj,Bk,rfl,Bl,Bm⟩:=id oS;obtain⟨Bn,Bo,rfl,Bp,Bq⟩:=id ic;refine aW rfl rfl (yS iD) (fun _ _ h=>by first | exact h.le | exact h.1) ?_;rintro w4 G4 ⟨kZ,Gq,rfl,cn⟩;obtain⟨n4,d4,b4,rfl,_⟩:=id cn;obtain⟨ti,aj,ak⟩:=cL;refine aI (.inl ⟨rfl,rfl⟩) rfl rfl rfl aj ak rfl rfl rfl (ab [4] ?_)
  obtain⟨b8,aP,aQ⟩:=cL;refine az ⟨.inr rfl,_,.agg rfl Tryz.underlying121 aP aQ (.nil),?_⟩;exact⟨((fo.trans dP).trans qG).trans kZ,_,rfl,cn⟩
 ·
  skip
  cases pR:w9 n2 d2 b2
  ·
   skip
   refine ae (aa 1 rfl (aB rfl rfl (oP) ?_));rintro v1 H1 ⟨e1,rfl⟩;rw[e1,pQ];refine aa 2 rfl (aB rfl rfl (oP) ?_);rintro v1 H1 ⟨e1,rfl⟩;rw[e1,pR];refine aa 1 rfl (ab [2,3,4,10] ?_);refine dd rfl (aw (ah [2,3,4] rfl ?_));refine bN .bK [0,2,1,3,4,5,6] follows (by kernel_rfl) ?_;refine aa 2 rfl (aW rfl rfl (sq hu) (fun _ _ h=>by first | exact h.le | exact h.1) ?_);rintro w1 G1 ⟨fo,bX⟩;obtain⟨u1,x1,rfl,eS,fK⟩:=id bX;obtain⟨mu,my,rfl,mz,mA⟩:=id eS;obtain⟨tP,tQ,rfl,tR,tS⟩:=id fK;refine aW rfl rfl (sq (hv.le fo)) (fun _ _ h=>by first | exact h.le | exact h.1) ?_;rintro w2 G2 ⟨dP,bS⟩;obtain⟨u2,x2,rfl,fS,eT⟩:=id bS;obtain⟨oG,oH,rfl,oI,oJ⟩:=id fS;obtain⟨oK,oL,rfl,oM,oN⟩:=id eT;refine aW rfl rfl (OT (N:=N) ((bX.le dP).raw.mono h1) (bS.raw.mono h2) hN) (fun _ _ h=>by first | exact h.le | exact h.1) ?_;rintro w3 G3 ⟨qG,iD⟩;obtain⟨u3,x3,rfl,oS,ic⟩:=id iD;obtain⟨Bj,Bk,rfl,Bl,Bm⟩:=id oS;obtain⟨Bn,Bo,rfl,Bp,Bq⟩:=id ic;refine aW rfl rfl (yS iD) (fun _ _ h=>by first | exact h.le | exact h.1) ?_;rintro w4 G4 ⟨kZ,Gq,rfl,cn⟩;obtain⟨n4,d4,b4,rfl,_⟩:=id cn;obtain⟨ti,aj,ak⟩:=cL;refine aI (.inl ⟨rfl,rfl⟩) rfl rfl rfl aj ak rfl rfl rfl ?_
   refine ab [4] ?_;obtain⟨b8,aP,aQ⟩:=cL;refine az ⟨.inr rfl,_,.agg rfl Tryz.underlying121 aP aQ (.nil),?_⟩;exact⟨((fo.trans dP).trans qG).trans kZ,_,rfl,cn⟩
  obtain⟨rfl,k1,k2,k3⟩:=Bc.1 pQ;obtain⟨rfl,k4,k5,k6⟩:=Bc.1 pR;obtain⟨-,rfl,rfl,-⟩:=dU.resolve_right (by rintro⟨ad,f,u,w,h,_⟩;cases h);obtain⟨-,rfl,rfl,-⟩:=dg.resolve_right (by rintro⟨ad,f,u,w,h,_⟩;cases h);have fi:=den_pos p;have dJ:=den_pos q;have m1:=Ba (a:=p.num) (b:=q.num) k1 k2 k4 k5;have m3:=Ba (a:=p.den) (b:=q.den) (by omega) k3 (by omega) k6;have m4:0<(p.den:Int)*(q.den:Int):=Int.mul_pos (by omega) (by omega);refine ae (aa 1 rfl (aB rfl rfl (oP) ?_));rintro v1 H1 ⟨e1,rfl⟩;rw[e1,pQ];refine aa 2 rfl (aB rfl rfl (oP) ?_);rintro v1 H1 ⟨e1,rfl⟩;rw[e1,pR];refine aa 1 rfl (ab [2,3,4,10] ?_);refine cI rfl (ae (aa 4 rfl (gZ rfl rfl ⟨by omega,by omega⟩ (aa 4 rfl (gZ rfl rfl ⟨by omega,by omega⟩ (aB rfl rfl (KM (by omega) (by omega) m4 (by omega)) ?_))))));rintro w1 G1 ⟨fo,Gr,rfl,bX⟩;rw[afT]at bX;obtain⟨n1,d1,b1,rfl,_⟩:=id bX;obtain⟨ti,aj,ak⟩:=cL;refine aI (.inl ⟨rfl,rfl⟩) rfl rfl rfl aj ak rfl rfl rfl (ab [4] ?_);obtain⟨b8,aP,aQ⟩:=cL;refine az ⟨.inr rfl,_,.agg rfl Tryz.underlying121 aP aQ (.nil),?_⟩;exact⟨fo,_,rfl,bX⟩
theorem DI{H:Heap}{us vs:List Value}{p q:Rat}{N:Nat}(hu:bQ H us p)(hv:bQ H vs q)(h1:aM p≤N)(h2:aM q≤N)(hN:(N:Int)≤1099511627776):
 Fn Tryz.prog 126 #[.agg us.toArray,.agg vs.toArray] H (tM H (p-q)):=by
 obtain⟨n1,d1,b1,rfl,dU⟩:=id hu
 obtain⟨n2,d2,b2,rfl,dg⟩:=id hv
 have mB:=wX q;refine aY (args:=[_,_]) Tryz.func126 rfl rfl Tryz.ntmps126 rfl rfl fun w0=> ?_;refine ah [0,1] rfl ?_;refine ae (bZ rfl rfl (bZ rfl rfl (bm fh rfl (ab [2,3,4] ?_))));refine bN .bK [0,1,2,3,4] follows (by kernel_rfl) ?_;refine aa 2 rfl (aW rfl rfl (DC hv (by omega)) (fun _ _ h=>by first | exact h.le | exact h.1) ?_);rintro w1 G1 ⟨fo,Gr,rfl,bX⟩;obtain⟨n1,d1,b1,rfl,_⟩:=id bX;refine aW rfl rfl (afW (hu.le fo) bX h1 (by omega) hN) (fun _ _ h=>by first | exact h.le | exact h.1) ?_;rintro w2 G2 ⟨dP,OZ,rfl,bS⟩;rw[←Rat.sub_eq_add_neg]at bS;obtain⟨n2,d2,b2,rfl,_⟩:=id bS;obtain⟨ti,aj,ak⟩:=cL;refine aI (.inl ⟨rfl,rfl⟩) rfl rfl rfl aj ak rfl rfl rfl (ab [4] ?_);obtain⟨b8,aP,aQ⟩:=cL;refine az ⟨.inr rfl,_,.agg rfl Tryz.underlying121 aP aQ (.nil),?_⟩;exact⟨fo.trans dP,_,rfl,bS⟩
theorem WA{H:Heap}{us vs:List Value}{p q:Rat}{N:Nat}(hu:bQ H us p)(hv:bQ H vs q)(h1:aM p≤N)(h2:aM q≤N)(hN:(N:Int)≤1099511627776)(hq:q≠0):
 Fn Tryz.prog 125 #[.agg us.toArray,.agg vs.toArray] H (tM H (p/q)):=by
 obtain⟨n1,d1,b1,rfl,dU⟩:=id hu
 obtain⟨n2,d2,b2,rfl,dg⟩:=id hv;refine aY (args:=[_,_]) Tryz.func125 rfl rfl Tryz.ntmps125 rfl rfl fun w0=> ?_;refine ah [0,1] rfl ?_;refine ae (bZ rfl rfl (bZ rfl rfl (bm fh rfl (ab [2,3,4] ?_))));refine ao ?_
 cases pQ:w9 n1 d1 b1
 ·
  skip
  refine ae (aa 1 rfl (aB rfl rfl (oP) ?_));rintro v1 H1 ⟨e1,rfl⟩;rw[e1,pQ];refine aa 4 rfl (ab [2,3,4,12] ?_);refine dd rfl (aw (ah [2,3,4] rfl ?_));refine bN .bK [0,2,1,3,4,5,6,7,8,9,10] follows (by kernel_rfl) ?_;refine aa 2 rfl (aW rfl rfl (sq hu) (fun _ _ h=>by first | exact h.le | exact h.1) ?_);rintro w1 G1 ⟨fo,bX⟩;obtain⟨u1,x1,rfl,eS,fK⟩:=id bX;obtain⟨mu,my,rfl,mz,mA⟩:=id eS;obtain⟨tP,tQ,rfl,tR,tS⟩:=id fK;refine aW rfl rfl (sq (hv.le fo)) (fun _ _ h=>by first | exact h.le | exact h.1) ?_;rintro w2 G2 ⟨dP,bS⟩;obtain⟨u2,x2,rfl,fS,eT⟩:=id bS;obtain⟨oG,oH,rfl,oI,oJ⟩:=id fS;obtain⟨oK,oL,rfl,oM,oN⟩:=id eT;refine aW rfl rfl (VR (N:=N) ((bX.le dP).raw.mono h1) (bS.raw.mono h2) hN) (fun _ _ h=>by first | exact h.le | exact h.1) ?_;rintro w3 G3 ⟨qG,r3,rfl,iD⟩;obtain⟨u3,x3,rfl,oS,ic⟩:=id iD;obtain⟨Bj,Bk,rfl,Bl,Bm⟩:=id oS;obtain⟨Bn,Bo,rfl,Bp,Bq⟩:=id ic;refine aa 3 rfl (bm cj rfl ?_);obtain⟨ti,aj,ak⟩:=aX;refine aI (.inl ⟨rfl,rfl⟩) rfl rfl rfl aj ak rfl rfl rfl (aa 1 rfl (ab [4,5] ?_));refine ae (aa 1 rfl (aB rfl rfl (yS iD) ?_))
  rintro w4 G4 ⟨kZ,Gq,rfl,cn⟩;obtain⟨n4,d4,b4,rfl,_⟩:=id cn;obtain⟨ti,aj,ak⟩:=cL;refine aI (.inl ⟨rfl,rfl⟩) rfl rfl rfl aj ak rfl rfl rfl (ab [4] ?_);obtain⟨b8,aP,aQ⟩:=cL;refine az ⟨.inr rfl,_,.agg rfl Tryz.underlying121 aP aQ (.nil),?_⟩;exact⟨((fo.trans dP).trans qG).trans kZ,_,rfl,cn⟩
 ·
  skip
  cases pR:w9 n2 d2 b2
  ·
   skip
   refine ae (aa 1 rfl (aB rfl rfl (oP) ?_));rintro v1 H1 ⟨e1,rfl⟩;rw[e1,pQ];refine aa 2 rfl (aB rfl rfl (oP) ?_);rintro v1 H1 ⟨e1,rfl⟩;rw[e1,pR];refine aa 1 rfl (ab [2,3,4,12] ?_);refine dd rfl (aw (ah [2,3,4] rfl ?_));refine bN .bK [0,2,1,3,4,5,6,7,8,9,10] follows (by kernel_rfl) ?_;refine aa 2 rfl (aW rfl rfl (sq hu) (fun _ _ h=>by first | exact h.le | exact h.1) ?_);rintro w1 G1 ⟨fo,bX⟩;obtain⟨u1,x1,rfl,eS,fK⟩:=id bX;obtain⟨mu,my,rfl,mz,mA⟩:=id eS;obtain⟨tP,tQ,rfl,tR,tS⟩:=id fK;refine aW rfl rfl (sq (hv.le fo)) (fun _ _ h=>by first | exact h.le | exact h.1) ?_;rintro w2 G2 ⟨dP,bS⟩;obtain⟨u2,x2,rfl,fS,eT⟩:=id bS;obtain⟨oG,oH,rfl,oI,oJ⟩:=id fS;obtain⟨oK,oL,rfl,oM,oN⟩:=id eT;refine aW rfl rfl (VR (N:=N) ((bX.le dP).raw.mono h1) (bS.raw.mono h2) hN) (fun _ _ h=>by first | exact h.le | exact h.1) ?_;rintro w3 G3 ⟨qG,r3,rfl,iD⟩;obtain⟨u3,x3,rfl,oS,ic⟩:=id iD;obtain⟨Bj,Bk,rfl,Bl,Bm⟩:=id oS;obtain⟨Bn,Bo,rfl,Bp,Bq⟩:=id ic;refine aa 3 rfl (bm cj rfl ?_);obtain⟨ti,aj,ak⟩:=aX;refine aI (.inl ⟨rfl,rfl⟩) rfl rfl rfl aj ak rfl rfl rfl (vr 1 ?_)
   refine ab [4,5] ?_;refine ae (aa 1 rfl (aB rfl rfl (yS iD) ?_));rintro w4 G4 ⟨kZ,Gq,rfl,cn⟩;obtain⟨n4,d4,b4,rfl,_⟩:=id cn;obtain⟨ti,aj,ak⟩:=cL;refine aI (.inl ⟨rfl,rfl⟩) rfl rfl rfl aj ak rfl rfl rfl (ab [4] ?_);obtain⟨b8,aP,aQ⟩:=cL;refine az ⟨.inr rfl,_,.agg rfl Tryz.underlying121 aP aQ (.nil),?_⟩;exact⟨((fo.trans dP).trans qG).trans kZ,_,rfl,cn⟩
  obtain⟨rfl,k1,k2,k3⟩:=Bc.1 pQ;obtain⟨rfl,k4,k5,k6⟩:=Bc.1 pR;obtain⟨-,rfl,rfl,-⟩:=dU.resolve_right (by rintro⟨ad,f,u,w,h,_⟩;cases h);obtain⟨-,rfl,rfl,-⟩:=dg.resolve_right (by rintro⟨ad,f,u,w,h,_⟩;cases h);have fi:=den_pos p;have dJ:=den_pos q;have hqn:q.num≠0:=fun e=>hq (Rat.num_eq_zero.1 e);have m1:=Ba (a:=p.num) (b:=q.den) k1 k2 (by omega) k6;have m3:=Ba (a:=p.den) (b:=q.num) (by omega) k3 k4 k5;refine ae (aa 1 rfl (aB rfl rfl (oP) ?_));rintro v1 H1 ⟨e1,rfl⟩;rw[e1,pQ];refine aa 2 rfl (aB rfl rfl (oP) ?_);rintro v1 H1 ⟨e1,rfl⟩;rw[e1,pR];refine aa 1 rfl (ab [2,3,4,12] ?_);refine cI rfl (ao (ae (aa 3 rfl (ab [2,3,4,15] ?_))));refine aD rfl (fun hb=> ?_) (fun hb=> ?_)
  ·
   have hb:q.num<0:=by simpa using hb
   have m4:0 < -(p.den:Int)*q.num:=by rw[Int.neg_mul,←Int.mul_neg];exact Int.mul_pos (by omega) (by omega)
   have e1: -p.num*(q.den:Int) = -(p.num*(q.den:Int)):=Int.neg_mul _ _;have e2: -(p.den:Int)*q.num = -((p.den:Int)*q.num):=Int.neg_mul _ _;refine ae (aa 2 rfl (tD rfl ⟨by omega,by omega⟩ (aa 2 rfl (gZ rfl rfl ⟨by omega,by omega⟩ (aa 2 rfl (tD rfl ⟨by omega,by omega⟩ (aa 2 rfl (gZ rfl rfl ⟨by omega,by omega⟩ (aB rfl rfl (KM (by omega) (by omega) m4 (by omega)) ?_)))))))));rintro w1 G1 ⟨fo,Gr,rfl,bX⟩;rw[afV p hq]at bX;obtain⟨n1,d1,b1,rfl,_⟩:=id bX;obtain⟨ti,aj,ak⟩:=cL;refine aI (.inl ⟨rfl,rfl⟩) rfl rfl rfl aj ak rfl rfl rfl (ab [4] ?_);obtain⟨b8,aP,aQ⟩:=cL;refine az ⟨.inr rfl,_,.agg rfl Tryz.underlying121 aP aQ (.nil),?_⟩;exact⟨fo,_,rfl,bX⟩
  have hb:0<q.num:=by have:=of_decide_eq_false hb;omega
  have m4:0<(p.den:Int)*q.num:=Int.mul_pos (by omega) hb;refine aw (ah [2,3,4] rfl ?_);refine ae (aa 4 rfl (gZ rfl rfl ⟨by omega,by omega⟩ (aa 4 rfl (gZ rfl rfl ⟨by omega,by omega⟩ (aB rfl rfl (KM (by omega) (by omega) m4 (by omega)) ?_)))));rintro w1 G1 ⟨fo,Gr,rfl,bX⟩;rw[Wz p hq]at bX;obtain⟨n1,d1,b1,rfl,_⟩:=id bX;obtain⟨ti,aj,ak⟩:=cL;refine aI (.inl ⟨rfl,rfl⟩) rfl rfl rfl aj ak rfl rfl rfl (ab [4] ?_);obtain⟨b8,aP,aQ⟩:=cL;refine az ⟨.inr rfl,_,.agg rfl Tryz.underlying121 aP aQ (.nil),?_⟩;exact⟨fo,_,rfl,bX⟩
end Go.aq
