/- Part 4 of the proof: Num1, Lp, Sx, Sy, Prg, Num2. -/
import Derived.Test.YtdjoookebbbjkaaGreatA03
set_option linter.unusedVariables false
namespace Go.aq
open Go.Proofs Num
theorem qy:Tryz.prog.underlying 119=some (.pointer (Tryz.prog.pointee 119)):=by
 unfold Program.pointee;rw[Tryz.underlying119]
theorem tH{H:Heap}{g:Nat}{xs:List Value}{e i:Nat}{v:Value}(h:xs[i]? = some v):cell (ins H g (whole xs e)) ((⟨g,0,none⟩:Addr).add i)=some v:=by
 simp[cell,im,ins,whole,h]
theorem KN{H:Heap}{g:Nat}{x:Value}{xs:List Value}{e:Nat}:cell (ins H g (whole (x::xs) e)) ⟨g,0,none⟩=some x:=by
 simp[cell,ins,whole]
theorem KO{H:Heap}{ad:Addr}{a b c:Value}(h0:cell H ad=some a)(h1:cell H (ad.add 1)=some b)(h2:cell H (ad.add 2)=some c):∀(i:Nat)(v:Value),[a,b,c][i]? = some v→cell H (ad.add i)=some v:=by
 intro i v hv
 match i with
 | 0=>simp only[List.getElem?_cons_zero,Option.some.injEq]at hv;subst hv;simpa [Addr.add]using h0
 | 1=>simp only[List.getElem?_cons_succ,List.getElem?_cons_zero,Option.some.injEq]at hv;subst hv;exact h1
 | 2=>simp only[List.getElem?_cons_succ,List.getElem?_cons_zero,Option.some.injEq]at hv;subst hv;exact h2
 | n+3=>simp at hv
theorem Bo{a b:Int}(h1: -2147483647≤a)(h2:a≤2147483647)(h3: -2147483647≤b)(h4:b≤2147483647): -4611686014132420609≤a*b∧a*b≤4611686014132420609:=by
 have h5:(a*b).natAbs≤2147483647*2147483647:=by rw[Int.natAbs_mul];exact Nat.mul_le_mul (by omega) (by omega)
 omega
theorem tI(p:Rat):(p.num:Rat)/((p.den:Int):Rat)=p:=by
 have:=Rat.mkRat_self p
 rwa [Rat.mkRat_eq_div]at this
theorem DJ(p:Rat):((p.den:Int):Rat)≠0:=fun e=>p.den_nz (by exact_mod_cast e)
theorem den_pos(p:Rat):0<p.den:=Nat.pos_of_ne_zero p.den_nz
theorem lowest{n d:Int}(hd:0<d):(((n:Rat)/(d:Rat)).num=n.tdiv (Nat.gcd n.natAbs d.natAbs:Nat))∧((n:Rat)/(d:Rat)).den=d.natAbs/Nat.gcd n.natAbs d.natAbs:=by
 have h0:decide (d<0)=false:=decide_eq_false (by omega)
 have mL:0<d.natAbs:=by omega
 have e:=Vr n d
 rw[h0]at e
 rw[←e,Bj mL,OI mL]
 refine⟨?_,rfl⟩
 have hg:(Nat.gcd n.natAbs d.natAbs)∣n.natAbs:=Nat.gcd_dvd_left _ _
 by_cases hn:n<0
 ·rw[show (decide (n<0) != false)=true by simp[hn]]
  have e2:n = -(n.natAbs:Int):=by omega
  conv=>rhs;rw[e2,Int.neg_tdiv]
  simp[sg,Int.tdiv_eq_ediv_of_nonneg]
 ·rw[show (decide (n<0) != false)=false by simp[hn]]
  have e2:n=(n.natAbs:Int):=by omega
  conv=>rhs;rw[e2]
  simp[sg,Int.tdiv_eq_ediv_of_nonneg]
theorem ae6{n:Int}{g:Nat}(h1: -9223372036854775807≤n)(h2:n≤9223372036854775807): -9223372036854775807≤n.tdiv g∧n.tdiv g≤9223372036854775807:=by
 have:(n.tdiv g).natAbs≤n.natAbs:=by
  rw[Int.natAbs_tdiv];exact Nat.div_le_self _ _
 omega
abbrev N3(n d:Int)(b:Option Addr):Value:= .agg #[.int .i64 n,.int .i64 d,.pointer b]
theorem w9(H:Heap){n:Int}(h1: -9223372036854775807≤n)(h2:n≤9223372036854775807):bS H [.int .i64 n,.int .i64 1,.pointer none] (n:Rat):=
 ⟨_,_,_,rfl,.inl ⟨rfl,by simp,by simp,h1,h2,by decide⟩⟩
theorem xa{H:Heap}{n:Int}:
 Fn Tryz.prog 122 #[.int .i64 n] H (j5 H (N3 n 1 none)):=by
 refine aZ (args:=[_]) Tryz.func122 rfl rfl Tryz.ntmps122 rfl rfl fun w0=> ?_;refine ah [0] rfl ?_;refine ae (bh ff rfl (ab [0,2] ?_));refine ae (aa 1 rfl (cL ag rfl ff rfl rfl ?_));obtain⟨ti,aj,ak⟩:=cH;refine aH (.inl ⟨rfl,rfl⟩) rfl rfl rfl aj ak rfl rfl rfl (ab [2] ?_);obtain⟨bP,aL,aM⟩:=cH;refine aB ⟨.inr rfl,_,.agg rfl Tryz.underlying121 aL aM (.nil),?_⟩;exact⟨rfl,rfl⟩
theorem VL{H:Heap}{u:Value}{l:List Nat}(hu:jz H u l)(hl:Lt l)(h2:l.length≤2):
 Fn Tryz.prog 159 #[u] H (j5 H (.int .i64 (val l:Nat))):=by
 obtain⟨A,c,rfl,hc,hr⟩:=hu;refine aZ (args:=[_]) Tryz.func159 rfl rfl Tryz.ntmps159 rfl rfl fun w0=> ?_;refine ah [0] rfl ?_;refine ae (aa 1 rfl (ab [0] ?_));refine ae (aa 1 rfl (ab [0,3] ?_));refine ao (ae (aa 2 rfl (cQ rfl rfl ⟨by omega,by omega⟩ (aa 1 rfl (ab [0,3,4] ?_)))));refine aE (fY (fun(k:Nat)=>k) (fun(k:Nat)=>put (put (put (emp) 0 (.val (.slice A l.length c))) 3 (.val (.int .i64 (val (l.drop k):Nat)))) 4 (.val (.int .i64 ((k:Int)-1)))) (fun(k:Nat) H'=>H'=H∧k≤l.length) l.length (⟨rfl,Nat.le_refl _⟩) (by simp only[List.drop_length];repeat (first | exact iJ _ | refine dA rfl ?_ | refine dA (iX (by first | omega | (simp[val];done))) ?_)) ?_);rintro k H1 ⟨rfl,hk⟩;refine ao (ae (aa 2 rfl (ab [0,3,4,9] ?_)));refine aD rfl (fun hb=> ?_) (fun hb=> ?_)
 ·
  have hb:0<k:=by simp at hb;omega
  obtain⟨x,hx⟩:∃x,l[k-1]? = some x:=⟨_,List.getElem?_eq_getElem (by omega)⟩;have hxB:=hl.get hx
  have kP:val (l.drop (k-1))=x+B*val (l.drop k):=by
   obtain⟨iI,e⟩:=List.getElem?_eq_some_iff.1 hx;rw[List.drop_eq_getElem_cons iI,e,jy,show k-1+1=k by omega]
  have hvb:=vf (hl.drop k);have ae7:B^(l.drop k).length≤B^1:=Nat.pow_le_pow_right mQ (by rw[List.length_drop];omega)
  have amG:val (l.drop k)<1000000000:=by
   have:=Nat.lt_of_lt_of_le hvb ae7
   rwa [Nat.pow_one,cg]at this
  rw[cg]at hxB kP;refine az (ah [0,3,4] rfl ?_);refine ao (aE (aA rfl (aa 1 rfl (gO rfl rfl ⟨by omega,by omega⟩ (aa 2 rfl (aS ag rfl rfl rfl rfl rfl (hr) (by rw[show ((k:Int)-1).toNat=k-1 by omega];exact dB hx) (by omega) (by omega) fun _=> ?_))))));refine di ag rfl rfl rfl ⟨by omega,by omega⟩ (aF rfl rfl ⟨by omega,by omega⟩ (aa 1 rfl (au (ah [0,3,4] rfl ?_))));refine aA rfl (aa 1 rfl (cQ rfl rfl ⟨by omega,by omega⟩ (aa 1 rfl (au ?_))));exact⟨k-1,by omega,(by rw[kP];repeat (first | exact iJ _ | refine dA rfl ?_ | refine dA (iX (by omega)) ?_)),rfl,by omega⟩
 ·
  have hb:k=0:=by simp at hb;omega
  subst hb;refine aX (ah [3] rfl ?_);refine ae (aa 2 rfl (ab [2] ?_));refine aB ⟨.inr rfl,_,.tmp rfl (.nil),?_⟩;exact⟨rfl,rfl⟩
theorem y8{H:Heap}{v:Value}{q:Rat}(hv:bH H v q):
 Fn Tryz.prog 130 #[v] H (tG H q):=by
 obtain⟨u,w,rfl,hu,hw⟩:=id hv
 have KP:=hv
 unfold bH at KP
 obtain⟨f,hf⟩:∃f,f=decide (q.num<0):=⟨_,rfl⟩
 rw[←hf]at hv
 rw[←hf]
 obtain⟨A,c,rfl,hc,hr⟩:=id hu
 obtain⟨A',c',rfl,jw,dR⟩:=id hw;refine aZ (args:=[_]) Tryz.func130 rfl rfl Tryz.ntmps130 rfl rfl fun w0=> ?_;refine ah [0] rfl ?_;refine ae (JX rfl rfl ?_);intro g hg;have hle:=Heap.bG (whole [.bool f,.slice A (al q.num.natAbs).length c,.slice A' (al q.den).length c'] 38) hg;refine bh ff rfl (ab [1,2] ?_);refine ao ?_
 by_cases h2:2<(al q.num.natAbs).length
 ·
  skip
  refine ae (aW ag rfl rfl rfl (aR ag rfl rfl rfl (tH rfl) (aa 1 rfl (aG true rfl rfl (ov (by omega)) (aa 6 rfl (ab [1,2,13] ?_))))));refine cK rfl (ae (cL ag rfl ff rfl rfl ?_));obtain⟨ti,aj,ak⟩:=cH;refine aH (.inl ⟨rfl,rfl⟩) rfl rfl rfl aj ak rfl rfl rfl (ab [2] ?_);obtain⟨bP,aL,aM⟩:=cH;refine aB ⟨.inr rfl,_,.agg rfl Tryz.underlying121 aL aM (.nil),?_⟩;exact⟨hle,_,rfl,0,0,some ⟨g,0,none⟩,rfl,.inr ⟨_,f,_,_,rfl,hv.le hle,KN,tH rfl,tH rfl⟩⟩
 ·
  skip
  by_cases h3:2<(al q.den).length
  ·
   skip
   refine ae (aW ag rfl rfl rfl (aR ag rfl rfl rfl (tH rfl) (aa 1 rfl (aG false rfl rfl (kt (by omega)) (aa 1 rfl (aW ag rfl rfl rfl (aR ag rfl rfl rfl (tH rfl) (aa 1 rfl (aG true rfl rfl (ov (by omega)) (aa 1 rfl (ab [1,2,13] ?_)))))))))));refine cK rfl (ae (cL ag rfl ff rfl rfl ?_));obtain⟨ti,aj,ak⟩:=cH;refine aH (.inl ⟨rfl,rfl⟩) rfl rfl rfl aj ak rfl rfl rfl (ab [2] ?_);obtain⟨bP,aL,aM⟩:=cH;refine aB ⟨.inr rfl,_,.agg rfl Tryz.underlying121 aL aM (.nil),?_⟩;exact⟨hle,_,rfl,0,0,some ⟨g,0,none⟩,rfl,.inr ⟨_,f,_,_,rfl,hv.le hle,KN,tH rfl,tH rfl⟩⟩
  skip
  refine ae (aW ag rfl rfl rfl (aR ag rfl rfl rfl (tH rfl) (aa 1 rfl (aG false rfl rfl (kt (by omega)) (aa 1 rfl (aW ag rfl rfl rfl (aR ag rfl rfl rfl (tH rfl) (aa 1 rfl (aG false rfl rfl (kt (by omega)) (aa 1 rfl (ab [1,2,13] ?_)))))))))));refine dh rfl (az (ah [1,2] rfl ?_));have Gf:=iZ.1 (show (al q.num.natAbs).length≤2 by omega);have tq:=iZ.1 (show (al q.den).length≤2 by omega);rw[cg]at Gf tq;refine bM .bJ [0,1,3,4,2,5,6,7,8] follows (by kernel_rfl) ?_;refine aW ag rfl rfl rfl (aR ag rfl rfl rfl (tH rfl) (aW ag rfl rfl rfl (aR ag rfl rfl rfl (tH rfl) (aY rfl rfl (VL (hu.le hle) (fP _).lt (by omega)) (fun _ _ h=>h.le) ?_))));rintro v1 H1 ⟨e1,rfl⟩;rw[e1,cR];refine aY rfl rfl (VL (hw.le hle) (fP _).lt (by omega)) (fun _ _ h=>h.le) ?_;rintro v1 H1 ⟨e1,rfl⟩;rw[e1,cR];refine cL ag rfl ff rfl rfl (bh ff rfl ?_);obtain⟨ti,aj,ak⟩:=cH;refine aH (.inl ⟨rfl,rfl⟩) rfl rfl rfl aj ak rfl rfl rfl (ab [1,2,3] ?_);refine ao (ae (aW ag rfl rfl rfl ?_))
  refine aR ag rfl rfl rfl (KN) (ab [2,3,23] ?_);refine aD rfl (fun hb=> ?_) (fun hb=> ?_)
  ·
   have hq:q.num<0:=by rw[hf]at hb;simpa using hb
   refine aA rfl (aa 2 rfl (rH rfl ⟨by omega,by omega⟩ (vr 1 ?_)));obtain⟨ti,aj,ak⟩:=qj;refine aH (.inr rfl) rfl rfl rfl aj ak rfl rfl rfl (au (ah [2,3] rfl ?_));refine ae (vr 1 ?_);obtain⟨ti,aj,ak⟩:=cH;refine aH (.inl ⟨rfl,rfl⟩) rfl rfl rfl aj ak rfl rfl rfl (ab [2] ?_);obtain⟨bP,aL,aM⟩:=cH;refine aB ⟨.inr rfl,_,.agg rfl Tryz.underlying121 aL aM (.nil),?_⟩;refine⟨hle,_,rfl,-(q.num.natAbs:Int),(q.den:Int),none,rfl,.inl ⟨rfl,by omega,rfl,by omega,by omega,by omega⟩⟩
  have hq:¬q.num<0:=by rw[hf]at hb;simpa using hb
  refine az (ah [2,3] rfl ?_);refine ae (vr 1 ?_);obtain⟨ti,aj,ak⟩:=cH;refine aH (.inl ⟨rfl,rfl⟩) rfl rfl rfl aj ak rfl rfl rfl (ab [2] ?_);obtain⟨bP,aL,aM⟩:=cH;refine aB ⟨.inr rfl,_,.agg rfl Tryz.underlying121 aL aM (.nil),?_⟩;refine⟨hle,_,rfl,(q.num.natAbs:Int),(q.den:Int),none,rfl,.inl ⟨rfl,by omega,rfl,by omega,by omega,by omega⟩⟩
theorem O4{H:Heap}{v:Value}{q:Rat}{N:Nat}(hv:cT H v q N)(hN:(N:Int)≤1099511627776):
 Fn Tryz.prog 121 #[v] H (tG H q):=by
 obtain⟨bf,bu,bw,nG,nH,rfl,_⟩:=id hv;refine aZ (args:=[_]) Tryz.func121 rfl rfl Tryz.ntmps121 rfl rfl fun w0=> ?_;refine ah [0] rfl ?_;refine ae (bY rfl rfl (bh ff rfl (ab [1,2] ?_)));refine ae (aa 1 rfl (aC rfl rfl (VF hv hN) ?_));rintro w1 G1 ⟨fl,b8⟩;obtain⟨u1,x1,rfl,eR,fH⟩:=id b8;obtain⟨mj,ml,rfl,mm,mo⟩:=id eR;obtain⟨tJ,tK,rfl,tL,tM⟩:=id fH;refine aC rfl rfl (y8 b8) ?_;rintro w2 G2 ⟨dP,O5,rfl,bU⟩;obtain⟨n2,d2,b2,rfl,_⟩:=id bU;obtain⟨ti,aj,ak⟩:=cH;refine aH (.inl ⟨rfl,rfl⟩) rfl rfl rfl aj ak rfl rfl rfl (ab [2] ?_);obtain⟨bP,aL,aM⟩:=cH;refine aB ⟨.inr rfl,_,.agg rfl Tryz.underlying121 aL aM (.nil),?_⟩;exact⟨fl.trans dP,_,rfl,bU⟩
theorem rV{H:Heap}{vs:List Value}{q:Rat}(hv:bS H vs q):
 Fn Tryz.prog 157 #[.agg vs.toArray] H (j0 H q):=by
 obtain⟨n,d,b,rfl,gD⟩:=id hv
 have cP:=fun ad f u w (h:bH H (.agg #[.bool f,u,w]) q)(_:b=some ad)=>h.raw;refine aZ (args:=[_]) Tryz.func157 rfl rfl Tryz.ntmps157 rfl rfl fun w0=> ?_;refine ah [0] rfl ?_;refine ae (bY rfl rfl (bh bQ rfl (ab [1,2] ?_)));refine ao ?_
 rcases gD with ⟨rfl,hn,hd,h1,h2,h3⟩ | ⟨ad,f,u,w,rfl,tN,mW,jb,mU⟩
 ·
  skip
  refine ae (aa 2 rfl (yE qy rfl rfl (ab [1,2,5] ?_)));refine dh rfl (az (ah [1,2] rfl ?_));refine ae (aa 4 rfl (aC rfl rfl (VE (by omega) (by omega) (by omega) (by omega)) ?_));rintro w1 G1 ⟨fl,b8⟩;obtain⟨u1,x1,rfl,eR,fH⟩:=id b8;obtain⟨mj,ml,rfl,mm,mo⟩:=id eR;obtain⟨tJ,tK,rfl,tL,tM⟩:=id fH;rw[hn,hd,tI]at b8;obtain⟨ti,aj,ak⟩:=aU;refine aH (.inl ⟨rfl,rfl⟩) rfl rfl rfl aj ak rfl rfl rfl (ab [2] ?_);obtain⟨bP,aL,aM⟩:=aU;refine aB ⟨.inr rfl,_,.agg rfl Tryz.underlying38 aL aM (.nil),?_⟩
  skip
  rw[hn,hd,tI];exact⟨fl,b8⟩
 ·
  obtain⟨u1,w1,Bp,eR,gi⟩:=id tN
  obtain⟨rfl,rfl,rfl⟩:f=decide (q.num<0)∧u=u1∧w=w1:=by simpa using Bp
  obtain⟨mj,ml,rfl,mm,mo⟩:=id eR;obtain⟨Du,Dv,rfl,Dw,Dx⟩:=id gi;refine ae (aa 2 rfl (yE qy rfl rfl (ab [1,2,5] ?_)));refine cK rfl (ae (aa 3 rfl (yG (vs:=[.bool _,_,_]) ag rfl rfl rfl (KO mW jb mU) ?_)));obtain⟨ti,aj,ak⟩:=aU;refine aH (.inl ⟨rfl,rfl⟩) rfl rfl rfl aj ak rfl rfl rfl (ab [2] ?_);obtain⟨bP,aL,aM⟩:=aU;refine aB ⟨.inr rfl,_,.agg rfl Tryz.underlying38 aL aM (.nil),?_⟩;exact⟨.refl _,tN⟩
theorem VM{H:Heap}{vs:List Value}{q:Rat}(hv:bS H vs q)(hN:(aN q:Int)≤1099511627776):
 Fn Tryz.prog 95 #[.agg vs.toArray] H (j0 H q):=by
 obtain⟨n,d,b,rfl,gD⟩:=id hv
 have cP:=fun ad f u w (h:bH H (.agg #[.bool f,u,w]) q)(_:b=some ad)=>h.raw;refine aZ (args:=[_]) Tryz.func95 rfl rfl Tryz.ntmps95 rfl rfl fun w0=> ?_;refine ah [0] rfl ?_;refine ae (bY rfl rfl (bh bQ rfl (ab [1,2] ?_)));refine ao ?_
 rcases gD with ⟨rfl,hn,hd,h1,h2,h3⟩ | ⟨ad,f,u,w,rfl,tN,mW,jb,mU⟩
 ·
  skip
  refine ae (aa 2 rfl (yE qy rfl rfl (ab [1,2,5] ?_)));refine dh rfl (az (ah [1,2] rfl ?_));refine ae (aa 4 rfl (aC rfl rfl (VE (by omega) (by omega) (by omega) (by omega)) ?_));rintro w1 G1 ⟨fl,b8⟩;obtain⟨u1,x1,rfl,eR,fH⟩:=id b8;obtain⟨mj,ml,rfl,mm,mo⟩:=id eR;obtain⟨tJ,tK,rfl,tL,tM⟩:=id fH;rw[hn,hd,tI]at b8;obtain⟨ti,aj,ak⟩:=aU;refine aH (.inl ⟨rfl,rfl⟩) rfl rfl rfl aj ak rfl rfl rfl (ab [2] ?_);obtain⟨bP,aL,aM⟩:=aU;refine aB ⟨.inr rfl,_,.agg rfl Tryz.underlying38 aL aM (.nil),?_⟩
  skip
  rw[hn,hd,tI];exact⟨fl,b8⟩
 ·
  obtain⟨u1,w1,Bp,eR,gi⟩:=id tN
  obtain⟨rfl,rfl,rfl⟩:f=decide (q.num<0)∧u=u1∧w=w1:=by simpa using Bp
  obtain⟨mj,ml,rfl,mm,mo⟩:=id eR;obtain⟨Du,Dv,rfl,Dw,Dx⟩:=id gi;refine ae (aa 2 rfl (yE qy rfl rfl (ab [1,2,5] ?_)));refine cK rfl (ae (aa 3 rfl (yG (vs:=[.bool _,_,_]) ag rfl rfl rfl (KO mW jb mU) (aC rfl rfl (VF tN.raw hN) ?_))));rintro w1 G1 ⟨fl,b8⟩;obtain⟨u1,x1,rfl,eR,fH⟩:=id b8;obtain⟨mj,ml,rfl,mm,mo⟩:=id eR;obtain⟨tJ,tK,rfl,tL,tM⟩:=id fH;obtain⟨ti,aj,ak⟩:=aU;refine aH (.inl ⟨rfl,rfl⟩) rfl rfl rfl aj ak rfl rfl rfl (ab [2] ?_);obtain⟨bP,aL,aM⟩:=aU;refine aB ⟨.inr rfl,_,.agg rfl Tryz.underlying38 aL aM (.nil),?_⟩;exact⟨fl,b8⟩
theorem ae8{H:Heap}{n d:Int}{b:Option Addr}:
 Fn Tryz.prog 154 #[N3 n d b] H (fun v H'=>H'=H∧∃t,v = .bool t∧(t=true↔b=none∧-2147483647≤n∧n≤2147483647∧d≤2147483647)):=by
 refine aZ (args:=[_]) Tryz.func154 rfl rfl Tryz.ntmps154 rfl rfl fun w0=> ?_;refine ah [0] rfl ?_;refine ae (bY rfl rfl (aa 1 rfl (ab [1] ?_)))
 rcases b with _ | ad
 rotate_left
 ·
  skip
  refine ae (aa 2 rfl (FC qy rfl rfl (aa 16 rfl (ab [2] ?_))));refine aB ⟨.inr rfl,_,.tmp rfl (.nil),?_⟩;exact⟨rfl,_,rfl,by constructor <;> intro h <;> first | (cases h;done) | exact⟨rfl,h1,h2,h3⟩ | (obtain⟨h4,h5,h6,h7⟩:=h;first | (cases h4;done) | omega) | rfl⟩
 ·
  skip
  by_cases h1: -2147483647≤n
  ·
   skip
   by_cases h2:n≤2147483647
   ·
    skip
    by_cases h3:d≤2147483647
    ·
     skip
     refine ae (aa 2 rfl (FC qy rfl rfl (aa 3 rfl (aG true rfl rfl (rN h1) (aa 4 rfl (aG true rfl rfl (rN h2) (aa 4 rfl (aG true rfl rfl (rN h3) (aa 2 rfl (ab [2] ?_))))))))));refine aB ⟨.inr rfl,_,.tmp rfl (.nil),?_⟩;exact⟨rfl,_,rfl,by constructor <;> intro h <;> first | (cases h;done) | exact⟨rfl,h1,h2,h3⟩ | (obtain⟨h4,h5,h6,h7⟩:=h;first | (cases h4;done) | omega) | rfl⟩
    skip
    refine ae (aa 2 rfl (FC qy rfl rfl (aa 3 rfl (aG true rfl rfl (rN h1) (aa 4 rfl (aG true rfl rfl (rN h2) (aa 4 rfl (aG false rfl rfl (AY (by omega)) (aa 2 rfl (ab [2] ?_))))))))));refine aB ⟨.inr rfl,_,.tmp rfl (.nil),?_⟩;exact⟨rfl,_,rfl,by constructor <;> intro h <;> first | (cases h;done) | exact⟨rfl,h1,h2,h3⟩ | (obtain⟨h4,h5,h6,h7⟩:=h;first | (cases h4;done) | omega) | rfl⟩
   skip
   refine ae (aa 2 rfl (FC qy rfl rfl (aa 3 rfl (aG true rfl rfl (rN h1) (aa 4 rfl (aG false rfl rfl (AY (by omega)) (aa 7 rfl (ab [2] ?_))))))));refine aB ⟨.inr rfl,_,.tmp rfl (.nil),?_⟩;exact⟨rfl,_,rfl,by constructor <;> intro h <;> first | (cases h;done) | exact⟨rfl,h1,h2,h3⟩ | (obtain⟨h4,h5,h6,h7⟩:=h;first | (cases h4;done) | omega) | rfl⟩
  skip
  refine ae (aa 2 rfl (FC qy rfl rfl (aa 3 rfl (aG false rfl rfl (AY (by omega)) (aa 12 rfl (ab [2] ?_))))));refine aB ⟨.inr rfl,_,.tmp rfl (.nil),?_⟩;exact⟨rfl,_,rfl,by constructor <;> intro h <;> first | (cases h;done) | exact⟨rfl,h1,h2,h3⟩ | (obtain⟨h4,h5,h6,h7⟩:=h;first | (cases h4;done) | omega) | rfl⟩
def xe(n d:Int)(b:Option Addr):Bool:=b.isNone&&(decide (-2147483647≤n)&&(decide (n≤2147483647)&&decide (d≤2147483647)))
theorem Bq{n d:Int}{b:Option Addr}:xe n d b=true↔b=none∧-2147483647≤n∧n≤2147483647∧d≤2147483647:=by
 simp[xe]
theorem oK{H:Heap}{n d:Int}{b:Option Addr}:Fn Tryz.prog 154 #[N3 n d b] H (j5 H (.bool (xe n d b))):=
 ae8.mono fun v H' ⟨h1,t,h2,h3⟩=>⟨h1,by rw[h2];congr 1;rw[Bool.eq_iff_iff,h3,Bq]⟩
theorem KR{H:Heap}{n d:Int}(h1: -9223372036854775807≤n)(h2:n≤9223372036854775807)(h3:0<d)(h4:d≤9223372036854775807):
 Fn Tryz.prog 155 #[.int .i64 n,.int .i64 d] H (tG H ((n:Rat)/(d:Rat))):=by
 have vq:=lowest (n:=n) h3;refine aZ (args:=[_,_]) Tryz.func155 rfl rfl Tryz.ntmps155 rfl rfl fun w0=> ?_;refine ah [0,1] rfl ?_;refine ae (bh ff rfl (ab [0,1,4] ?_));refine ae (aa 2 rfl (rH rfl ⟨by omega,by omega⟩ (ac0 rfl rfl ?_)));rw[show (if -n>n then -n else n)=((n.natAbs:Nat):Int) by split <;> omega];refine aa 3 rfl (ab [0,1,4,5,6] ?_);refine ao (aE (gn (fun(a:Nat)(b:Nat)=>b) (fun(a:Nat)(b:Nat)=>put (put (put (put (put (emp) 0 (.val (.int .i64 n))) 1 (.val (.int .i64 d))) 4 (.box [.int .i64 0,.int .i64 0,.pointer none])) 5 (.val (.int .i64 (a:Int)))) 6 (.val (.int .i64 (b:Int)))) (fun(a:Nat)(b:Nat) H'=>H'=H∧Nat.gcd a b=Nat.gcd n.natAbs d.natAbs∧a≤9223372036854775807∧b≤9223372036854775807) n.natAbs d.natAbs (⟨rfl,rfl,by omega,by omega⟩) ar ?_));rintro a b H1 ⟨rfl,hg,ha,ll⟩;refine ao (ae (aa 2 rfl (ab [0,1,4,5,6,13] ?_)));refine aD rfl (fun hb=> ?_) (fun hb=> ?_)
 ·
  have hb:0<b:=by simp at hb;omega
  refine az (ah [0,1,4,5,6] rfl ?_);refine aE (eo .bJ [0,1,2,3,4,5] follows (by kernel_rfl) ?_);refine aa 3 rfl (mP rfl rfl (by omega) (by omega) (aa 2 rfl (au ?_)));exact⟨b,a%b,Nat.mod_lt a hb,ar,rfl,by rw[←hg,Nat.gcd_comm b,←Nat.gcd_rec,Nat.gcd_comm],ll,by have:=Nat.mod_lt a hb;omega⟩
 ·
  have hb:b=0:=by simp at hb;omega
  subst hb;rw[Nat.gcd_zero_right]at hg
  have ha0:0<a:=by rw[hg];exact Nat.gcd_pos_of_pos_right _ (by omega)
  have iV:=ae6 (g:=a) h1 h2;have jK:(d/(a:Int))≤d∧0≤d/(a:Int):=⟨Int.ediv_le_self _ (by omega),Int.ediv_nonneg (by omega) (by omega)⟩;refine aX (ah [0,1,4,5] rfl ?_);refine bM .bJ [0,1,2,3,4,5,6,7] follows (by kernel_rfl) ?_;refine aa 2 rfl (UH rfl rfl (by omega) ⟨by omega,by omega⟩ (aa 2 rfl (lG rfl rfl (by omega) (by omega) ⟨by omega,by omega⟩ (cL ag rfl ff rfl rfl ?_))));obtain⟨ti,aj,ak⟩:=cH;refine aH (.inl ⟨rfl,rfl⟩) rfl rfl rfl aj ak rfl rfl rfl (ab [4] ?_);obtain⟨bP,aL,aM⟩:=cH;refine aB ⟨.inr rfl,_,.agg rfl Tryz.underlying121 aL aM (.nil),?_⟩;rw[←hg]at vq;refine⟨.refl _,_,rfl,n.tdiv a,d/(a:Int),none,rfl,.inl ⟨rfl,vq.1.symm,?_,iV.1,iV.2,by omega⟩⟩;rw[vq.2]
  have e:d=(d.natAbs:Int):=by omega
  rw[e,Int.natAbs_natCast];rfl
theorem tO{H:Heap}{vs:List Value}{q:Rat}(hv:bS H vs q)(hN:(aN q:Int)≤1099511627776):
 Fn Tryz.prog 87 #[.agg vs.toArray] H (fun v H'=>Heap.le H H'∧v = .int .i64 (fI q)):=by
 obtain⟨n,d,b,rfl,gD⟩:=id hv
 have cP:=fun ad f u w (h:bH H (.agg #[.bool f,u,w]) q)(_:b=some ad)=>h.raw
 have hs:=VJ q;refine aZ (args:=[_]) Tryz.func87 rfl rfl Tryz.ntmps87 rfl rfl fun w0=> ?_;refine ah [0] rfl ?_;refine ae (bY rfl rfl (aa 1 rfl (ab [1] ?_)));refine ao (aE ?_)
 rcases gD with ⟨rfl,hn,hd,h1,h2,h3⟩ | ⟨ad,f,u,w,rfl,tN,mW,jb,mU⟩
 ·
  skip
  refine ae (aa 2 rfl (yE qy rfl rfl (aa 1 rfl (ab [1,3] ?_))));refine dh rfl (ae (aa 4 rfl (ab [1,12] ?_)));refine aD rfl (fun hb=> ?_) (fun hb=> ?_)
  ·
   have hb:n<0:=by simpa using hb
   rw[if_neg (by omega),decide_eq_true (by omega)]at hs;refine ae (aa 1 rfl (ab [2] ?_));refine aB ⟨.inr rfl,_,.tmp rfl (.nil),?_⟩;exact⟨.refl _,by rw[hs];rfl⟩
  ·
   have hb:0≤n:=by simpa using hb
   refine ae (aa 4 rfl (ab [16] ?_));refine aD rfl (fun hb=> ?_) (fun hb=> ?_)
   ·
    have hb:0<n:=by simpa using hb
    rw[if_neg (by omega),decide_eq_false (by omega)]at hs;refine ae (aa 1 rfl (ab [2] ?_));refine aB ⟨.inr rfl,_,.tmp rfl (.nil),?_⟩;exact⟨.refl _,by rw[hs];rfl⟩
   have de:n≤0:=by simpa using hb
   rw[if_pos (by omega)]at hs;refine az (ah [] rfl ?_);refine ae (aa 1 rfl (ab [2] ?_));refine aB ⟨.inr rfl,_,.tmp rfl (.nil),?_⟩;exact⟨.refl _,by rw[hs];rfl⟩
 ·
  obtain⟨u1,w1,Bp,eR,gi⟩:=id tN
  obtain⟨rfl,rfl,rfl⟩:f=decide (q.num<0)∧u=u1∧w=w1:=by simpa using Bp
  obtain⟨mj,ml,rfl,mm,mo⟩:=id eR;obtain⟨Du,Dv,rfl,Dw,Dx⟩:=id gi;refine ae (aa 2 rfl (yE qy rfl rfl (aa 1 rfl (ab [1,3] ?_))));refine cK rfl (ae (aa 3 rfl (yG (vs:=[.bool _,_,_]) ag rfl rfl rfl (KO mW jb mU) (aC rfl rfl (Gc tN.raw hN) ?_))));rintro v1 H1 ⟨bx,rfl⟩;refine aa 1 rfl (ab [2] ?_);refine aB ⟨.inr rfl,_,.tmp rfl (.nil),?_⟩;exact⟨bx,rfl⟩
theorem DK{H:Heap}{vs:List Value}{q:Rat}(hv:bS H vs q)(hN:(aN q:Int)≤1099511627776):
 Fn Tryz.prog 92 #[.agg vs.toArray] H (tG H (-q)):=by
 obtain⟨n,d,b,rfl,gD⟩:=id hv
 have cP:=fun ad f u w (h:bH H (.agg #[.bool f,u,w]) q)(_:b=some ad)=>h.raw;refine aZ (args:=[_]) Tryz.func92 rfl rfl Tryz.ntmps92 rfl rfl fun w0=> ?_;refine ah [0] rfl ?_;refine ae (bY rfl rfl (bh ff rfl (ab [1,2] ?_)));refine ao ?_
 rcases gD with ⟨rfl,hn,hd,h1,h2,h3⟩ | ⟨ad,f,u,w,rfl,tN,mW,jb,mU⟩
 ·
  skip
  refine ae (aa 2 rfl (yE qy rfl rfl (ab [1,2,5] ?_)));refine dh rfl (az (ah [1,2] rfl ?_));refine ae (aa 2 rfl (rH rfl ⟨by omega,by omega⟩ (aa 2 rfl (cL ag rfl ff rfl rfl ?_))));obtain⟨ti,aj,ak⟩:=cH;refine aH (.inl ⟨rfl,rfl⟩) rfl rfl rfl aj ak rfl rfl rfl (ab [2] ?_);obtain⟨bP,aL,aM⟩:=cH;refine aB ⟨.inr rfl,_,.agg rfl Tryz.underlying121 aL aM (.nil),?_⟩;exact⟨.refl _,_,rfl,-n,d,none,rfl,.inl ⟨rfl,by rw[Rat.neg_num,hn],by rw[Rat.neg_den,hd],by omega,by omega,by omega⟩⟩
 ·
  obtain⟨u1,w1,Bp,eR,gi⟩:=id tN
  obtain⟨rfl,rfl,rfl⟩:f=decide (q.num<0)∧u=u1∧w=w1:=by simpa using Bp
  obtain⟨mj,ml,rfl,mm,mo⟩:=id eR;obtain⟨Du,Dv,rfl,Dw,Dx⟩:=id gi;refine ae (aa 2 rfl (yE qy rfl rfl (ab [1,2,5] ?_)));refine cK rfl (ae (aa 3 rfl (yG (vs:=[.bool _,_,_]) ag rfl rfl rfl (KO mW jb mU) (aC rfl rfl (ae2 tN.raw hN) ?_))));rintro w1 G1 ⟨fl,b8⟩;obtain⟨u1,x1,rfl,eR,fH⟩:=id b8;obtain⟨mj,ml,rfl,mm,mo⟩:=id eR;obtain⟨tJ,tK,rfl,tL,tM⟩:=id fH;refine aC rfl rfl (y8 b8) ?_;rintro w2 G2 ⟨dP,O5,rfl,bU⟩;obtain⟨n2,d2,b2,rfl,_⟩:=id bU;obtain⟨ti,aj,ak⟩:=cH;refine aH (.inl ⟨rfl,rfl⟩) rfl rfl rfl aj ak rfl rfl rfl (ab [2] ?_);obtain⟨bP,aL,aM⟩:=cH;refine aB ⟨.inr rfl,_,.agg rfl Tryz.underlying121 aL aM (.nil),?_⟩;exact⟨fl.trans dP,_,rfl,bU⟩
end Go.aq
namespace Lp
def a7:Nat→(Nat→Rat)→Rat
 | 0,_=>0
 | n+1,f=>a7 n f+f n
theorem gq(n:Nat)(f:Nat→Rat):a7 (n+1) f=a7 n f+f n:=rfl
theorem DL(f:Nat→Rat):a7 0 f=0:=rfl
theorem eM{n:Nat}{f g:Nat→Rat}(h:∀i,i<n→f i=g i):a7 n f=a7 n g:=by
 induction n with
 | zero=>rfl
 | succ n ih=>
  rw[gq,gq,ih (fun i hi=>h i (by omega)),h n (by omega)]
theorem O6(n:Nat)(f g:Nat→Rat):a7 n (fun i=>f i+g i)=a7 n f+a7 n g:=by
 induction n with
 | zero=>simp only[a7];grind
 | succ n ih=>simp only[gq,ih];grind
theorem Gg(n:Nat)(f g:Nat→Rat):a7 n (fun i=>f i-g i)=a7 n f-a7 n g:=by
 induction n with
 | zero=>simp only[a7];grind
 | succ n ih=>simp only[gq,ih];grind
theorem tP(n:Nat)(k:Rat)(f:Nat→Rat):a7 n (fun i=>k*f i)=k*a7 n f:=by
 induction n with
 | zero=>simp[a7]
 | succ n ih=>simp only[gq,ih];grind
theorem vy(n:Nat)(k:Rat)(f:Nat→Rat):a7 n (fun i=>f i*k)=a7 n f*k:=by
 induction n with
 | zero=>simp[a7]
 | succ n ih=>simp only[gq,ih];grind
theorem KS(n:Nat)(f:Nat→Rat):a7 n (fun i=> - f i) = - a7 n f:=by
 induction n with
 | zero=>simp only[a7];grind
 | succ n ih=>simp only[gq,ih];grind
theorem KT(n:Nat):a7 n (fun _=>0)=0:=by
 induction n with
 | zero=>rfl
 | succ n ih=>rw[gq,ih];grind
theorem lM{n:Nat}{f:Nat→Rat}(h:∀i,i<n→f i=0):a7 n f=0:=by
 rw[eM h,KT]
theorem tQ{n k:Nat}(hk:k<n)(f:Nat→Rat)(h:∀i,i<n→i≠k→f i=0):a7 n f=f k:=by
 induction n with
 | zero=>omega
 | succ n ih=>
  rw[gq]
  by_cases e:k=n
  ·subst e
   rw[lM (fun i hi=>h i (by omega) (by omega))];grind
  ·rw[ih (by omega) (fun i hi bo=>h i (by omega) bo),h n (by omega) (by omega)];grind
theorem KU(m n:Nat)(f:Nat→Nat→Rat):
  a7 m (fun i=>a7 n (fun j=>f i j))=a7 n (fun j=>a7 m (fun i=>f i j)):=by
 induction m with
 | zero=>simp[a7,KT]
 | succ m ih=>simp only[gq,ih,O6]
theorem Gh{n:Nat}{f:Nat→Rat}(h:∀i,i<n→0≤f i):0≤a7 n f:=by
 induction n with
 | zero=>exact Rat.le_refl
 | succ n ih=>
  rw[gq]
  have h1:=ih (fun i hi=>h i (by omega))
  have h2:=h n (by omega)
  grind
theorem KV{n:Nat}{f g:Nat→Rat}(h:∀i,i<n→f i≤g i):a7 n f≤a7 n g:=by
 induction n with
 | zero=>exact Rat.le_refl
 | succ n ih=>
  rw[gq,gq]
  have h1:=ih (fun i hi=>h i (by omega))
  have h2:=h n (by omega)
  grind
theorem ae9{n:Nat}{f:Nat→Rat}(h:0<a7 n f):∃i,i<n∧0<f i:=by
 false_or_by_contra
 rename_i hc
 have:a7 n f≤a7 n (fun _=>0):=KV (fun i hi=>by
  have:¬0<f i:=fun hp=>hc ⟨i,hi,hp⟩
  grind)
 rw[KT]at this
 grind
theorem VN{n k:Nat}(hk:k<n)(f:Nat→Rat):a7 n (fun i=>if i=k then f i else 0)=f k:=by
 rw[tQ hk _ (fun i _ bo=>if_neg bo),if_pos rfl]
structure av where
 m:Nat
 n:Nat
 A:Nat→Nat→Rat
 c:Nat→Rat
 B:Nat→Nat
namespace av
def pL(T:av)(x:Nat→Rat):Prop:=∀i,i<T.m→a7 (T.n+1) (fun j=>T.A i j*x j)=0
def cost(T:av)(x:Nat→Rat):Rat:=a7 (T.n+1) (fun j=>T.c j*x j)
structure WF(T:av):Prop where
 lt:∀i,i<T.m→T.B i<T.n
 unit:∀i k,i<T.m→k<T.m→T.A k (T.B i)=if k=i then 1 else 0
 zero:∀i,i<T.m→T.c (T.B i)=0
theorem WF.inj{T:av}(h:T.WF){i k:Nat}(hi:i<T.m)(hk:k<T.m)(e:T.B i=T.B k):i=k:=by
 have h1:=h.unit i k hi hk
 have h2:=h.unit k k hk hk
 rw[e,h2]at h1
 simp at h1
 exact h1.symm
def jO(T:av):Prop:=∀i,i<T.m→0≤T.A i T.n
def dir(T:av)(s:Nat)(j:Nat):Rat:=(if j=s then 1 else 0)-a7 T.m (fun i=>if T.B i=j then T.A i s else 0)
theorem DM(T:av)(hB:∀i,i<T.m→T.B i<T.n)(s:Nat)(hs:s≤T.n)(f:Nat→Rat):
  a7 (T.n+1) (fun j=>f j*T.dir s j)=f s-a7 T.m (fun i=>f (T.B i)*T.A i s):=by
 have e1:∀j,f j*T.dir s j=(if j=s then f j else 0)-a7 T.m (fun i=>if j=T.B i then f j*T.A i s else 0):=by
  intro j
  unfold dir
  have:a7 T.m (fun i=>if j=T.B i then f j*T.A i s else 0)=f j*a7 T.m (fun i=>if T.B i=j then T.A i s else 0):=by
   rw[←tP]
   refine eM fun i _=> ?_
   by_cases e:T.B i=j
   ·rw[if_pos e,if_pos e.symm]
   ·rw[if_neg e,if_neg (fun h=>e h.symm)];grind
  rw[this]
  by_cases e:j=s
  ·rw[if_pos e,if_pos e];grind
  ·rw[if_neg e,if_neg e];grind
 rw[eM (fun j _=>e1 j),Gg,VN (by omega)]
 congr 1
 rw[KU]
 refine eM fun i hi=> ?_
 have:=hB i hi
 exact VN (f:=fun j=>f j*T.A i s) (by omega)
theorem za{T:av}(h:T.WF)(s:Nat)(hs:s≤T.n):T.pL (T.dir s):=by
 intro k hk
 rw[DM T h.lt s hs]
 rw[tQ hk]
 ·rw[h.unit k k hk hk,if_pos rfl];grind
 ·intro i hi bo
  rw[h.unit i k hi hk,if_neg (fun e=>bo e.symm)];grind
theorem DN{T:av}(h:T.WF)(s:Nat)(hs:s≤T.n):T.cost (T.dir s)=T.c s:=by
 unfold cost
 rw[DM T h.lt s hs,lM]
 ·grind
 ·intro i hi;rw[h.zero i hi];grind
def pivot(T:av)(r s:Nat):av:=
 {m:=T.m,n:=T.n
  A:=fun i j=>if i=r then T.A r j/T.A r s else T.A i j-T.A i s*(T.A r j/T.A r s)
  c:=fun j=>T.c j-T.c s*(T.A r j/T.A r s)
  B:=fun i=>if i=r then s else T.B i}
theorem Bs{T:av}(h:T.WF){r s:Nat}(hr:r<T.m)(hs:s<T.n)(hp:T.A r s≠0):(T.pivot r s).WF:=by
 refine⟨fun i hi=> ?_,fun i k hi hk=> ?_,fun i hi=> ?_⟩
 ·simp only[pivot]at hi⊢
  split
  ·exact hs
  ·exact h.lt i hi
 ·simp only[pivot]at hi hk⊢
  by_cases ei:i=r
  ·simp only[if_pos ei]
   by_cases ek:k=r
   ·simp only[ek,ei,if_true];grind
   ·simp only[if_neg ek]
    rw[if_neg (by omega)];grind
  ·simp only[if_neg ei]
   have hu:=h.unit i r hi hr
   rw[if_neg (fun e=>ei e.symm)]at hu
   rw[hu]
   by_cases ek:k=r
   ·simp only[if_pos ek]
    rw[if_neg (by omega)];grind
   ·simp only[if_neg ek]
    rw[h.unit i k hi hk];grind
 ·simp only[pivot]at hi⊢
  by_cases ei:i=r
  ·simp only[if_pos ei];grind
  ·simp only[if_neg ei]
   have hu:=h.unit i r hi hr
   rw[if_neg (fun e=>ei e.symm)]at hu
   rw[hu,h.zero i hi];grind
theorem VO(T:av)(r s i:Nat)(x:Nat→Rat):
  a7 (T.n+1) (fun j=>(T.pivot r s).A i j*x j) =
   if i=r then a7 (T.n+1) (fun j=>T.A r j*x j)/T.A r s
   else a7 (T.n+1) (fun j=>T.A i j*x j)-T.A i s*(a7 (T.n+1) (fun j=>T.A r j*x j)/T.A r s):=by
 simp only[pivot]
 by_cases e:i=r
 ·simp only[if_pos e]
  rw[Rat.div_def,←vy]
  exact eM fun j _=>by grind
 ·simp only[if_neg e]
  rw[Rat.div_def,←vy,←tP,←Gg]
  exact eM fun j _=>by grind
theorem O7{T:av}{r s:Nat}(hr:r<T.m)(hp:T.A r s≠0)(x:Nat→Rat):(T.pivot r s).pL x↔T.pL x:=by
 constructor
 ·intro h i hi
  have dR:=h r hr
  have eX:=h i hi
  have en:(T.pivot r s).n=T.n:=rfl
  rw[en,VO]at dR eX
  rw[if_pos rfl]at dR
  have h0:a7 (T.n+1) (fun j=>T.A r j*x j)=0:=by grind
  by_cases e:i=r
  ·subst e;exact h0
  ·rw[if_neg e]at eX;grind
 ·intro h i hi
  have en:(T.pivot r s).n=T.n:=rfl
  have em:(T.pivot r s).m=T.m:=rfl
  rw[em]at hi
  rw[en,VO,h r hr,h i hi]
  split <;> grind
theorem VP{T:av}{r s:Nat}(hr:r<T.m)(x:Nat→Rat)(hx:T.pL x):(T.pivot r s).cost x=T.cost x:=by
 have e:(T.pivot r s).cost x=T.cost x-T.c s*(a7 (T.n+1) (fun j=>T.A r j*x j)/T.A r s):=by
  unfold cost
  simp only[pivot]
  rw[Rat.div_def,←vy,←tP,←Gg]
  exact eM fun j _=>by grind
 rw[e,hx r hr];grind
structure oL(T:av)(u r s:Nat):Prop where
 su:s<u
 neg:T.c s<0
 first:∀j,j<s→0≤T.c j
 rm:r<T.m
 pos:0<T.A r s
 least:∀i,i<T.m→0<T.A i s→T.A r T.n/T.A r s<T.A i T.n/T.A i s∨(T.A r T.n/T.A r s=T.A i T.n/T.A i s∧T.B r≤T.B i)
theorem O8{a b:Rat}(ha:0≤a)(hb:0<b):0≤a/b:=by
 rw[Rat.div_def]
 have:0<b⁻¹:=Rat.inv_pos.2 hb
 exact Rat.mul_nonneg ha (Rat.le_of_lt this)
theorem Gi{T:av}{u r s:Nat}(hf:T.jO)(hb:T.oL u r s):(T.pivot r s).jO:=by
 intro i hi
 have eX:i<T.m:=hi
 have hr:=hf r hb.rm
 have rF:=hf i eX
 have hq:0≤T.A r T.n/T.A r s:=O8 hr hb.pos
 show 0≤(if i=r then T.A r T.n/T.A r s else T.A i T.n-T.A i s*(T.A r T.n/T.A r s))
 split
 ·exact hq
 ·by_cases hp:0<T.A i s
  ·have hl:T.A r T.n/T.A r s≤T.A i T.n/T.A i s:=by
    rcases hb.least i eX hp with h | h
    ·exact Rat.le_of_lt h
    ·rw[h.1];exact Rat.le_refl
   have h3:T.A i s*(T.A r T.n/T.A r s)≤T.A i s*(T.A i T.n/T.A i s):=Rat.mul_le_mul_of_nonneg_left hl (Rat.le_of_lt hp)
   have h4:T.A i s*(T.A i T.n/T.A i s)=T.A i T.n:=by grind
   grind
  ·have h5:0≤(- T.A i s)*(T.A r T.n/T.A r s):=Rat.mul_nonneg (by grind) hq
   grind
structure tR(u:Nat)(len:Nat) where
 T:Nat→av
 r:Nat→Nat
 s:Nat→Nat
 wf:(T 0).WF
 fm:(T 0).jO
 un:u≤(T 0).n
 step:∀k,k<len→(T k).oL u (r k) (s k)
 next:∀k,k<len→T (k+1)=(T k).pivot (r k) (s k)
namespace tR
variable {u len:Nat} (R:tR u len)
theorem DO(k:Nat)(hk:k≤len):(R.T k).n=(R.T 0).n:=by
 induction k with
 | zero=>rfl
 | succ k ih=>rw[R.next k (by omega)];exact ih (by omega)
theorem sn{k:Nat}(hk:k<len):R.s k<(R.T k).n:=by
 have:=(R.step k hk).su
 have:=R.un
 rw[R.DO k (by omega)];omega
theorem zb(k:Nat)(hk:k≤len):(R.T k).WF:=by
 induction k with
 | zero=>exact R.wf
 | succ k ih=>
  rw[R.next k (by omega)]
  have hb:=R.step k (by omega)
  have:=hb.pos
  exact Bs (ih (by omega)) hb.rm (R.sn (by omega)) (by grind)
theorem afa(k:Nat)(hk:k≤len):(R.T k).jO:=by
 induction k with
 | zero=>exact R.fm
 | succ k ih=>
  rw[R.next k (by omega)]
  exact Gi (ih (by omega)) (R.step k (by omega))
theorem VQ(k:Nat)(hk:k≤len)(x:Nat→Rat):(R.T k).pL x↔(R.T 0).pL x:=by
 induction k with
 | zero=>exact Iff.rfl
 | succ k ih=>
  rw[R.next k (by omega)]
  have hb:=R.step k (by omega)
  have:=hb.pos
  rw[O7 hb.rm (by grind)]
  exact ih (by omega)
theorem VR(k:Nat)(hk:k≤len)(x:Nat→Rat)(hx:(R.T 0).pL x):(R.T k).cost x=(R.T 0).cost x:=by
 induction k with
 | zero=>rfl
 | succ k ih=>
  rw[R.next k (by omega)]
  have hb:=R.step k (by omega)
  rw[VP hb.rm x ((R.VQ k (by omega) x).2 hx)]
  exact ih (by omega)
def basic(k j:Nat):Prop:=∃i,i<(R.T k).m∧(R.T k).B i=j
def val(T:av)(j:Nat):Rat:=a7 T.m (fun i=>if T.B i=j then T.A i T.n else 0)
theorem O9{T:av}(h:T.WF){i:Nat}(hi:i<T.m):val T (T.B i)=T.A i T.n:=by
 unfold val
 rw[tQ hi,if_pos rfl]
 intro k hk bo
 rw[if_neg]
 exact fun e=>bo (h.inj hk hi e)
def vz(k:Nat):Prop:=(R.T k).A (R.r k) (R.T k).n=0
theorem VS{k:Nat}(hk:k<len)(hd:R.vz k)(j:Nat):val (R.T (k+1)) j=val (R.T k) j:=by
 rw[R.next k hk]
 unfold val
 unfold vz at hd
 refine eM fun i hi=> ?_
 simp only[pivot]
 rw[hd]
 by_cases e:i=R.r k
 ·subst e;simp only[if_true,hd];grind
 ·simp only[if_neg e];grind
theorem VT{a b:Nat}(Bt:a≤b)(hb:b≤len)(hd:∀k,a≤k→k<b→R.vz k)(j:Nat):val (R.T b) j=val (R.T a) j:=by
 induction b with
 | zero=>obtain rfl:a=0:=by omega
         rfl
 | succ b ih=>
  by_cases e:a=b+1
  ·subst e;rfl
  ·rw[R.VS (by omega) (hd b (by omega) (by omega))]
   exact ih (by omega) (by omega) (fun k h1 h2=>hd k h1 (by omega))
theorem Gj{k:Nat}(hk:k<len)(j:Nat):R.basic (k+1) j↔(j=R.s k∨(R.basic k j∧j≠(R.T k).B (R.r k))):=by
 unfold basic
 rw[R.next k hk]
 have hb:=R.step k hk
 have hw:=R.zb k (by omega)
 constructor
 ·rintro⟨i,hi,e⟩
  have eX:i<(R.T k).m:=hi
  have e':(if i=R.r k then R.s k else(R.T k).B i)=j:=e
  by_cases er:i=R.r k
  ·rw[if_pos er]at e';exact .inl e'.symm
  ·rw[if_neg er]at e'
   refine .inr ⟨⟨i,eX,e'⟩,fun h=>er (hw.inj eX hb.rm (by rw[e',h]))⟩
 ·rintro(h | ⟨⟨i,hi,e⟩,bo⟩)
  ·refine⟨R.r k,hb.rm,?_⟩
   show (if R.r k=R.r k then R.s k else _)=j
   rw[if_pos rfl,h]
  ·refine⟨i,hi,?_⟩
   show (if i=R.r k then R.s k else(R.T k).B i)=j
   rw[if_neg,e]
   intro er;exact bo (by rw[←e,er])
theorem Pb{k:Nat}(hk:k<len):¬R.basic k (R.s k):=by
 rintro⟨i,hi,e⟩
 have:=(R.zb k (by omega)).zero i hi
 rw[e]at this
 have:=(R.step k hk).neg
 grind
theorem Pc{k:Nat}(hk:k<len):R.basic k ((R.T k).B (R.r k)):=⟨_,(R.step k hk).rm,rfl⟩
theorem change{a b:Nat}(Bt:a≤b)(hb:b≤len)(j:Nat)(h:¬(R.basic a j↔R.basic b j)):
  ∃k,a≤k∧k<b∧(R.s k=j∨(R.T k).B (R.r k)=j):=by
 induction b with
 | zero=>obtain rfl:a=0:=by omega
         exact absurd Iff.rfl h
 | succ b ih=>
  by_cases e:a=b+1
  ·subst e;exact absurd Iff.rfl h
  ·by_cases h2:R.s b=j∨(R.T b).B (R.r b)=j
   ·exact⟨b,by omega,by omega,h2⟩
   ·have:R.basic (b+1) j↔R.basic b j:=by
     rw[R.Gj (by omega)]
     constructor
     ·rintro(h | h)
      ·exact absurd (.inl h.symm) h2
      ·exact h.1
     ·exact fun h=> .inr ⟨h,fun e=>h2 (.inr e.symm)⟩
    obtain⟨k,h3,h4,h5⟩:=ih (by omega) (by omega) (fun hh=>h (hh.trans this.symm))
    exact⟨k,h3,by omega,h5⟩
theorem val_zero{k:Nat}(hk:k<len)(hd:R.vz k){j:Nat}(h:R.s k=j∨(R.T k).B (R.r k)=j):val (R.T k) j=0:=by
 rcases h with h | h
 ·rw[←R.VS hk hd]
  have e:j=(R.T (k+1)).B (R.r k):=by
   rw[R.next k hk]
   show j=if R.r k=R.r k then R.s k else _
   rw[if_pos rfl,h]
  rw[e,O9 (R.zb (k+1) (by omega)) (by rw[R.next k hk];exact(R.step k hk).rm)]
  rw[R.next k hk]
  show (if R.r k=R.r k then(R.T k).A (R.r k) (R.T k).n/(R.T k).A (R.r k) (R.s k)else _)=0
  rw[if_pos rfl]
  unfold vz at hd
  rw[hd];grind
 ·rw[←h,O9 (R.zb k (by omega)) (R.step k hk).rm]
  exact hd
theorem KW{a b t p q:Nat}(hb:b≤len)(hd:∀k,a≤k→k<b→R.vz k)
  (hle:∀k,a≤k→k<b→R.s k≤t∧(R.T k).B (R.r k)≤t) (fg:a≤p) (dK:p<b) (b8:a≤q) (bU:q<b)
  (hp:(R.T p).B (R.r p)=t) (hq:R.s q=t):False:=by
 have bp:=R.step p (by omega)
 have bq:=R.step q (by omega)
 have wp:=R.zb p (by omega)
 have hs:R.s p<t:=by
  have h1:=(hle p fg dK).1
  have h2:R.s p≠t:=fun e=>R.Pb (k:=p) (by omega) (by rw[e,←hp];exact R.Pc (by omega))
  omega
 have mq:R.s p≤(R.T p).n:=Nat.le_of_lt (R.sn (by omega))
 have afb:=za wp (R.s p) mq
 have VU:=(R.VQ p (by omega) _).1 afb
 have hc:=DN wp (R.s p) mq
 rw[R.VR p (by omega) _ VU,←R.VR q (by omega) _ VU]at hc
 have en:(R.T q).n=(R.T p).n:=by rw[R.DO p (by omega),R.DO q (by omega)]
 unfold cost at hc
 rw[en,DM _ wp.lt _ mq]at hc
 have lg:0≤(R.T q).c (R.s p):=bq.first _ (by rw[hq];exact hs)
 have fV:=bp.neg
 have DP:0<a7 (R.T p).m (fun i=>(R.T q).c ((R.T p).B i)*(R.T p).A i (R.s p)):=by grind
 obtain⟨i,hi,mr⟩:=ae9 DP
 have Gf:¬R.basic q ((R.T p).B i):=by
  rintro⟨k,hk,e⟩
  have:=(R.zb q (by omega)).zero k hk
  rw[e]at this
  rw[this]at mr;grind
 have Ov:R.basic p ((R.T p).B i):=⟨i,hi,rfl⟩
 have hex:∃k,a≤k∧k<b∧min p q≤k∧(R.s k=(R.T p).B i∨(R.T k).B (R.r k)=(R.T p).B i):=by
  rcases Nat.le_total p q with mR | mR
  ·obtain⟨k,h1,h2,h3⟩:=R.change mR (by omega) ((R.T p).B i) (fun h=>Gf (h.1 Ov))
   exact⟨k,by omega,by omega,by omega,h3⟩
  ·obtain⟨k,h1,h2,h3⟩:=R.change mR (by omega) ((R.T p).B i) (fun h=>Gf (h.2 Ov))
   exact⟨k,by omega,by omega,by omega,h3⟩
 obtain⟨k,gC,fN,_,dz⟩:=hex
 have rW:(R.T p).B i≤t:=by
  rcases dz with e | e
  ·rw[←e];exact(hle k gC fN).1
  ·rw[←e];exact(hle k gC fN).2
 have KP:val (R.T k) ((R.T p).B i)=0:=R.val_zero (by omega) (hd k gC fN) dz
 have VV:val (R.T p) ((R.T p).B i)=0:=by
  rcases Nat.le_total p k with h | h
  ·rw[←R.VT h (by omega) (fun x h1 h2=>hd x (by omega) (by omega))];exact KP
  ·rw[R.VT h (by omega) (fun x h1 h2=>hd x (by omega) (by omega))];exact KP
 rw[O9 wp hi]at VV
 by_cases et:(R.T p).B i=t
 ·have:i=R.r p:=wp.inj hi bp.rm (by rw[et,hp])
  subst this
  have h1:=bq.neg
  rw[hq,←et]at h1
  have h2:=bp.pos
  have h3:(R.T q).c ((R.T p).B (R.r p))*(R.T p).A (R.r p) (R.s p)<0:=by
   have:=Rat.mul_pos (show 0 < -(R.T q).c ((R.T p).B (R.r p)) by grind) h2
   grind
  grind
 ·have bX:(R.T p).B i<t:=by omega
  have mW:0≤(R.T q).c ((R.T p).B i):=bq.first _ (by rw[hq];exact bX)
  have hA:0<(R.T p).A i (R.s p):=by
   false_or_by_contra
   rename_i hn
   have:0≤(R.T q).c ((R.T p).B i)*(-(R.T p).A i (R.s p)):=Rat.mul_nonneg mW (by grind)
   grind
  have Pd:=hd p fg dK
  unfold vz at Pd
  have e0:(0:Rat)/(R.T p).A (R.r p) (R.s p)=0:=by grind
  have e1:(0:Rat)/(R.T p).A i (R.s p)=0:=by grind
  rcases bp.least i hi hA with h | h
  ·rw[Pd,VV,e0,e1]at h;exact absurd h (by decide)
  ·have:=h.2;omega
theorem short(t:Nat):∀a b,a≤b→b≤len→(∀k,a≤k→k<b→R.vz k)→
  (∀k,a≤k→k<b→R.s k<t∧(R.T k).B (R.r k)<t)→b<a+2^t:=by
 induction t with
 | zero=>
  intro a b Bt hb hd bX
  by_cases e:a=b
  ·subst e;simp
  ·have:=bX a (Nat.le_refl _) (by omega);omega
 | succ t ih=>
  intro a b Bt hb hd bX
  have hle:∀k,a≤k→k<b→R.s k≤t∧(R.T k).B (R.r k)≤t:=fun k h1 h2=>by
   have:=bX k h1 h2;omega
  have h2:2^(t+1)=2^t+2^t:=by rw[Nat.pow_succ];omega
  have mr:0<2^t:=Nat.pow_pos (by omega)
  have once:∀k l,a≤k→k<l→l<b→(R.s k=t∨(R.T k).B (R.r k)=t)→¬(R.s l=t∨(R.T l).B (R.r l)=t):=by
   intro k l hk Pe hl iI kJ
   rcases iI with iI | iI
   ·
    have cD:R.s l=t:=by
     rcases kJ with h | h
     ·exact h
     ·exact(R.KW hb hd hle (p:=l) (q:=k) (by omega) (by omega) (by omega) (by omega) h iI).elim
    have zc:R.basic (k+1) t:=(R.Gj (by omega) t).2 (.inl iI.symm)
    have jM:¬R.basic l t:=by rw[←cD];exact R.Pb (by omega)
    obtain⟨x,h1,h2,h3⟩:=R.change (a:=k+1) (b:=l) (by omega) (by omega) t (fun h=>jM (h.1 zc))
    have hx:∀y,k+1≤y→y≤l→R.basic y t:=by
     intro y hy
     induction y with
     | zero=>omega
     | succ y Pf=>
      intro kK
      by_cases e:k=y
      ·subst e;exact zc
      ·have:=Pf (by omega) (by omega)
       refine(R.Gj (by omega) t).2 (.inr ⟨this,fun e=> ?_⟩)
       exact R.KW hb hd hle (p:=y) (q:=k) (by omega) (by omega) (by omega) (by omega) e.symm iI
    exact jM (hx l (by omega) (Nat.le_refl _))
   ·have cD:(R.T l).B (R.r l)=t:=by
     rcases kJ with h | h
     ·exact(R.KW hb hd hle (p:=k) (q:=l) (by omega) (by omega) (by omega) (by omega) iI h).elim
     ·exact h
    have zc:¬R.basic (k+1) t:=by
     rw[R.Gj (by omega) t]
     rintro(h | h)
     ·exact R.Pb (k:=k) (by omega) (by rw[←h,←iI];exact R.Pc (by omega))
     ·exact h.2 iI.symm
    have jM:R.basic l t:=by rw[←cD];exact R.Pc (by omega)
    have hx:∀y,k+1≤y→y≤l→¬R.basic y t:=by
     intro y hy
     induction y with
     | zero=>omega
     | succ y Pf=>
      intro kK
      by_cases e:k=y
      ·subst e;exact zc
      ·have:=Pf (by omega) (by omega)
       rw[R.Gj (by omega) t]
       rintro(h | h)
       ·exact R.KW hb hd hle (p:=k) (q:=y) (by omega) (by omega) (by omega) (by omega) iI h.symm
       ·exact this h.1
    exact hx l (by omega) (Nat.le_refl _) jM
  by_cases hex:∃k,a≤k∧k<b∧(R.s k=t∨(R.T k).B (R.r k)=t)
  ·obtain⟨k,gC,fN,dz⟩:=hex
   have h3:=ih a k (by omega) (by omega) (fun x h1 h2=>hd x h1 (by omega)) (fun x h1 h2=>by
    have hl:=hle x h1 (by omega)
    have hn:¬(R.s x=t∨(R.T x).B (R.r x)=t):=fun h=>once x k h1 h2 fN h dz
    omega)
   have h4:=ih (k+1) b (by omega) hb (fun x h1 h2=>hd x (by omega) h2) (fun x h1 h2=>by
    have hl:=hle x (by omega) h2
    have hn:=once k x gC (by omega) h2 dz
    omega)
   omega
  ·have h3:=ih a b Bt hb hd (fun x h1 h2=>by
    have hl:=hle x h1 h2
    have hn:¬(R.s x=t∨(R.T x).B (R.r x)=t):=fun h=>hex ⟨x,h1,h2,h⟩
    omega)
   omega
end tR
end av
end Lp
namespace Lp
namespace av
structure Same(T S:av):Prop where
 m:S.m=T.m
 n:S.n=T.n
 nI:∀x,S.pL x↔T.pL x
 cost:∀x,T.pL x→S.cost x=T.cost x
theorem Same.symm{T S:av}(h:Same T S):Same S T:=⟨h.m.symm,h.n.symm,fun x=>(h.nI x).symm,fun x hx=>(h.cost x ((h.nI x).1 hx)).symm⟩
theorem Same.trans{T S R:av}(h:Same T S)(h':Same S R):Same T R:=
 ⟨h'.m.trans h.m,h'.n.trans h.n,fun x=>(h'.nI x).trans (h.nI x),fun x hx=>(h'.cost x ((h.nI x).2 hx)).trans (h.cost x hx)⟩
theorem Same.pivot{T:av}{r s:Nat}(hr:r<T.m)(hp:T.A r s≠0):Same T (T.pivot r s):=
 ⟨rfl,rfl,fun x=>O7 hr hp x,fun x hx=>VP hr x hx⟩
theorem afc{T S:av}(h:Same T S)(hT:T.WF)(hS:S.WF)(hB:∀i,i<T.m→S.B i=T.B i):S.c S.n=T.c T.n:=by
 have h1:=za hT T.n (Nat.le_refl _)
 have h2:=h.cost _ h1
 rw[DN hT T.n (Nat.le_refl _)]at h2
 unfold cost at h2
 rw[h.n,DM T hT.lt _ (Nat.le_refl _),lM]at h2
 ·rw[h.n];grind
 ·intro i hi
  rw[←hB i hi,hS.zero i (by rw[h.m];exact hi)];grind
def Gk(n:Nat):Nat→List (List Nat)
 | 0=>[[]]
 | m+1=>(Gk n m).flatMap fun l=>(List.range n).map fun j=>l ++ [j]
theorem afd(n m:Nat)(f:Nat→Nat)(h:∀i,i<m→f i<n):(List.range m).map f∈Gk n m:=by
 induction m with
 | zero=>simp[Gk]
 | succ m ih=>
  simp only[Gk,List.mem_flatMap,List.mem_map,List.mem_range]
  exact⟨_,ih (fun i hi=>h i (by omega)),f m,h m (by omega),by rw[List.range_succ,List.map_append];rfl⟩
theorem VW{α:Type}(p q:α→Bool)(l:List α)(h:∀x,x∈l→p x=true→q x=true)
  (hx:∃x,x∈l∧q x=true∧p x=false):l.countP p<l.countP q:=by
 induction l with
 | nil=>obtain⟨x,hx,_⟩:=hx;cases hx
 | cons a l ih=>
  have hle:l.countP p≤l.countP q:=List.countP_mono_left fun x hx hp=>h x (List.mem_cons_of_mem _ hx) hp
  rw[List.countP_cons,List.countP_cons]
  obtain⟨x,fH,eS,gT⟩:=hx
  rcases List.mem_cons.1 fH with e | e
  ·subst e
   rw[eS,gT];simp;omega
  ·have:=ih (fun y hy=>h y (List.mem_cons_of_mem _ hy)) ⟨x,e,eS,gT⟩
   have ha:=h a (List.mem_cons_self ..)
   cases hp:p a
   ·simp;omega
   ·rw[ha hp];simp;omega
def KY(T:av)(l:List Nat):Prop:=∃S:av,S.WF∧Same T S∧(List.range T.m).map S.B=l∧T.c T.n<S.c S.n
open Classical in
noncomputable def xg(T:av):Nat:=(Gk T.n T.m).countP fun l=>decide (KY T l)
theorem KY.of{T S:av}(h:Same T S)(hv:T.c T.n≤S.c S.n){l:List Nat}(hb:KY S l):KY T l:=by
 obtain⟨R,h1,h2,h3,h4⟩:=hb
 refine⟨R,h1,h.trans h2,by rw[←h.m];exact h3,by grind⟩
open Classical in
theorem afe{T S:av}(h:Same T S)(hv:T.c T.n≤S.c S.n):xg S≤xg T:=by
 unfold xg
 rw[h.m,h.n]
 exact List.countP_mono_left fun l _ hp=>by
  have:=of_decide_eq_true hp
  exact decide_eq_true (this.of h hv)
open Classical in
theorem aff{T S:av}(h:Same T S)(hS:S.WF)(hv:T.c T.n<S.c S.n):xg S<xg T:=by
 unfold xg
 rw[h.m,h.n]
 refine VW _ _ _ (fun l _ hp=> ?_) ⟨(List.range T.m).map S.B,?_,?_,?_⟩
 ·have:=of_decide_eq_true hp
  exact decide_eq_true (this.of h (Rat.le_of_lt hv))
 ·exact afd _ _ _ (fun i hi=>by rw[←h.n];exact hS.lt i (by rw[h.m];exact hi))
 ·exact decide_eq_true ⟨S,hS,h,rfl,hv⟩
 ·refine decide_eq_false ?_
  rintro⟨R,h1,h2,h3,h4⟩
  have:R.c R.n=S.c S.n:=afc h2 hS h1 (fun i hi=>by
   rw[h.m]at h3 hi
   exact List.map_inj_left.1 h3 i (List.mem_range.2 hi))
  grind
theorem afg{T:av}{u r s:Nat}(hf:T.jO)(hb:T.oL u r s):
  T.c T.n≤(T.pivot r s).c (T.pivot r s).n∧(T.A r T.n≠0→T.c T.n<(T.pivot r s).c (T.pivot r s).n):=by
 have e:(T.pivot r s).c (T.pivot r s).n=T.c T.n-T.c s*(T.A r T.n/T.A r s):=rfl
 rw[e]
 have hq:=O8 (hf r hb.rm) hb.pos
 have hn:=hb.neg
 constructor
 ·have:=Rat.mul_nonneg (show 0≤- T.c s by grind) hq
  grind
 ·intro h0
  have hp:0<T.A r T.n/T.A r s:=by
   have mr:=hb.pos
   have:T.A r T.n/T.A r s≠0:=fun h=>h0 (by
    have:T.A r T.n/T.A r s*T.A r s=T.A r T.n:=by grind
    grind)
   grind
  have:=Rat.mul_pos (show 0 < - T.c s by grind) hp
  grind
def Step(u:Nat)(S T:av):Prop:=∃r s,T.oL u r s∧S=T.pivot r s
def tR.nil{u:Nat}(T:av)(hw:T.WF)(hf:T.jO)(hu:u≤T.n):tR u 0:=
 {T:=fun _=>T,r:=fun _=>0,s:=fun _=>0,wf:=hw,fm:=hf,un:=hu
  step:=fun k hk=>absurd hk (by omega),next:=fun k hk=>absurd hk (by omega)}
def tR.snoc{u h:Nat}(R:tR u h)(r s:Nat)(hb:(R.T h).oL u r s):tR u (h+1):=
 {T:=fun k=>if k≤h then R.T k else(R.T h).pivot r s
  r:=fun k=>if k<h then R.r k else r
  s:=fun k=>if k<h then R.s k else s
  wf:=by simpa using R.wf
  fm:=by simpa using R.fm
  un:=by simpa using R.un
  step:=fun k hk=>by
   simp only[show k≤h by omega,if_true]
   by_cases e:k<h
   ·simp only[e,if_true];exact R.step k e
   ·simp only[e,if_false]
    obtain rfl:k=h:=by omega
    exact hb
  next:=fun k hk=>by
   simp only[show k≤h by omega,if_true]
   by_cases e:k<h
   ·simp only[e,if_true,show k+1≤h by omega];exact R.next k e
   ·simp only[e,if_false]
    obtain rfl:k=h:=by omega
    simp only[show ¬(k+1≤k) by omega,if_false]}
theorem ends(u:Nat):∀(v:Nat)(T:av),T.WF→T.jO→u≤T.n→xg T≤v→Acc (Step u) T:=by
 intro v
 induction v using Nat.strongRecOn with
 | _ v ih=>
  intro T hw hf hu hv
  have key:∀d h (R:tR u h),(∀k,k<h→R.vz k)→xg (R.T h)≤v→2^(R.T 0).n≤h+d→Acc (Step u) (R.T h):=by
   intro d
   induction d with
   | zero=>
    intro h R hd hr hp
    have:=R.short (R.T 0).n 0 h (by omega) (Nat.le_refl _) (fun k _ hk=>hd k hk) (fun k _ hk=>by
     refine⟨?_,?_⟩
     ·have:=R.sn hk
      rw[R.DO k (by omega)]at this;exact this
     ·have:=(R.zb k (by omega)).lt _ (R.step k hk).rm
      rw[R.DO k (by omega)]at this;exact this)
    omega
   | succ d ihd=>
    intro h R hd hr hp
    refine Acc.intro _ fun S hS=> ?_
    obtain⟨r,s,hb,rfl⟩:=hS
    have Pg:=R.zb h (Nat.le_refl _)
    have Ph:=R.afa h (Nat.le_refl _)
    have pI:u≤(R.T h).n:=by rw[R.DO h (Nat.le_refl _)];exact R.un
    have mr:=hb.pos
    have bo:(R.T h).A r s≠0:=by grind
    have mq:s<(R.T h).n:=by have:=hb.su;omega
    have qz:=Same.pivot hb.rm bo
    have rX:=afg Ph hb
    by_cases h0:(R.T h).A r (R.T h).n=0
    ·have e:(R.snoc r s hb).T (h+1)=(R.T h).pivot r s:=by
      show (if h+1≤h then _ else _)=_
      rw[if_neg (by omega)]
     rw[←e]
     refine ihd (h+1) (R.snoc r s hb) (fun k hk=> ?_) ?_ ?_
     ·unfold tR.vz
      have e1:(R.snoc r s hb).T k=R.T k:=by
       show (if k≤h then _ else _)=_
       rw[if_pos (by omega)]
      rw[e1]
      by_cases ek:k<h
      ·have e2:(R.snoc r s hb).r k=R.r k:=by
        show (if k<h then _ else _)=_
        rw[if_pos ek]
       rw[e2];exact hd k ek
      ·obtain rfl:k=h:=by omega
       have e2:(R.snoc r s hb).r k=r:=by
        show (if k<k then _ else _)=_
        rw[if_neg (by omega)]
       rw[e2];exact h0
     ·rw[e];exact Nat.le_trans (afe qz rX.1) hr
     ·have e3:(R.snoc r s hb).T 0=R.T 0:=by
       show (if 0≤h then R.T 0 else(R.T h).pivot r s)=_
       rw[if_pos (by omega)]
      rw[e3];omega
    ·have bX:=aff qz (Bs Pg hb.rm mq bo) (rX.2 h0)
     exact ih (xg ((R.T h).pivot r s)) (by omega) _ (Bs Pg hb.rm mq bo) (Gi Ph hb) pI (Nat.le_refl _)
  have:=key (2^T.n) 0 (tR.nil T hw hf hu) (fun k hk=>absurd hk (by omega)) hv (by
   show 2^T.n≤0+2^T.n
   omega)
  exact this
theorem Pj{u:Nat}{T:av}(hw:T.WF)(hf:T.jO)(hu:u≤T.n):Acc (Step u) T:=ends u _ T hw hf hu (Nat.le_refl _)
end av
end Lp
namespace Lp
structure LP where
 n:Nat
 m:Nat
 free:Nat→Bool
 a:Nat→Nat→Rat
 rel:Nat→Int
 b:Nat→Rat
def vA(r:Int)(x:Rat):Prop:=(r=1→x≤0)∧(r=2→x=0)∧(r=3→0≤x)
def cJ(n:Nat)(c x:Nat→Rat):Rat:=a7 n (fun j=>c j*x j)
namespace LP
variable (p:LP)
def Valid:Prop:=∀i,i<p.m→p.rel i=1∨p.rel i=2∨p.rel i=3
def ib(t:Rat)(x:Nat→Rat):Prop:=(∀j,j<p.n→p.free j=false→0≤x j)∧∀i,i<p.m→vA (p.rel i) (cJ p.n (p.a i) x-p.b i*t)
def Signed(y:Nat→Rat):Prop:=∀i,i<p.m→(p.rel i=3→0≤y i)∧(p.rel i=1→y i≤0)
def kv(y:Nat→Rat)(j:Nat):Rat:=a7 p.m (fun i=>y i*p.a i j)
def xh(y:Nat→Rat):Rat:=a7 p.m (fun i=>y i*p.b i)
structure zd(c x y:Nat→Rat):Prop where
 fm:p.ib 1 x
 signed:p.Signed y
 pM:∀j,j<p.n→0≤c j-p.kv y j∧(p.free j=true→c j-p.kv y j≤0)
 eq:p.xh y=cJ p.n c x
structure ze(y:Nat→Rat):Prop where
 signed:p.Signed y
 pM:∀j,j<p.n→p.kv y j≤0∧(p.free j=true→0≤p.kv y j)
 pos:0<p.xh y
structure zf(c x r:Nat→Rat):Prop where
 fm:p.ib 1 x
 oM:p.ib 0 r
 neg:cJ p.n c r<0
def pN:Prop:=∀x,¬p.ib 1 x
def rY(c:Nat→Rat)(v:Rat):Prop:=(∃x,p.ib 1 x∧cJ p.n c x=v)∧∀x,p.ib 1 x→v≤cJ p.n c x
def vB(c:Nat→Rat):Prop:=(∃x,p.ib 1 x)∧∀v,∃x,p.ib 1 x∧cJ p.n c x<v
end LP
theorem VX(n:Nat)(c x y:Nat→Rat):cJ n c (fun j=>x j+y j)=cJ n c x+cJ n c y:=by
 unfold cJ
 rw[←O6]
 exact eM fun j _=>by grind
theorem VY(n:Nat)(c x:Nat→Rat)(k:Rat):cJ n c (fun j=>k*x j)=k*cJ n c x:=by
 unfold cJ
 rw[←tP]
 exact eM fun j _=>by grind
theorem afh{n:Nat}{c c' x x':Nat→Rat}(h:∀j,j<n→c j=c' j)(h':∀j,j<n→x j=x' j):cJ n c x=cJ n c' x':=
 eM fun j hj=>by rw[h j hj,h' j hj]
namespace LP
variable {p:LP}
theorem afi(p:LP)(y x:Nat→Rat):cJ p.n (p.kv y) x=a7 p.m (fun i=>y i*cJ p.n (p.a i) x):=by
 unfold cJ kv
 have h1:∀j,a7 p.m (fun i=>y i*p.a i j)*x j=a7 p.m (fun i=>y i*p.a i j*x j):=fun j=>(vy _ _ _).symm
 have h2:∀i,y i*a7 p.n (fun j=>p.a i j*x j)=a7 p.n (fun j=>y i*p.a i j*x j):=fun i=>by
  rw[←tP]
  exact eM fun j _=>by grind
 rw[eM (fun j _=>h1 j),eM (fun i _=>h2 i),KU]
theorem VZ(hv:p.Valid){t:Rat}{x y:Nat→Rat}(hx:p.ib t x)(hy:p.Signed y):p.xh y*t≤cJ p.n (p.kv y) x:=by
 rw[afi]
 unfold xh
 rw[←vy]
 refine KV fun i hi=> ?_
 have h1:=hx.2 i hi
 have h2:=hy i hi
 rcases hv i hi with e | e | e
 ·have h3:=h1.1 e
  have h4:=h2.2 e
  have h5:0≤(- y i)*(- (cJ p.n (p.a i) x-p.b i*t)):=Rat.mul_nonneg (by grind) (by grind)
  grind
 ·have h3:=h1.2.1 e
  have:cJ p.n (p.a i) x=p.b i*t:=by grind
  rw[this];grind
 ·have h3:=h1.2.2 e
  have h4:=h2.1 e
  have h5:0≤y i*(cJ p.n (p.a i) x-p.b i*t):=Rat.mul_nonneg h4 h3
  grind
theorem ze.isInf(hv:p.Valid){y:Nat→Rat}(h:p.ze y):p.pN:=fun x hx=>by
 have h1:=VZ hv hx h.signed
 have h2:cJ p.n (p.kv y) x≤0:=by
  have:cJ p.n (p.kv y) x≤a7 p.n (fun _=>0):=KV fun j hj=>by
   have h3:=h.pM j hj
   cases hf:p.free j with
   | true=>have h4:=h3.2 hf;have:p.kv y j=0:=by grind
           rw[this];grind
   | false=>
    have h5:=hx.1 j hj hf
    have:0≤(- p.kv y j)*x j:=Rat.mul_nonneg (by grind) h5
    grind
  rwa [KT]at this
 have:=h.pos
 grind
theorem below{c x y:Nat→Rat}(hv:p.Valid)(hx:p.ib 1 x)(hy:p.Signed y)(hc:∀j,j<p.n→0≤c j-p.kv y j∧(p.free j=true→c j-p.kv y j≤0)):p.xh y≤cJ p.n c x:=by
 have h1:=VZ hv hx hy
 have h2:cJ p.n (p.kv y) x≤cJ p.n c x:=KV fun j hj=>by
  have h3:=hc j hj
  cases hf:p.free j with
  | true=>have h4:=h3.2 hf;have:p.kv y j=c j:=by grind
          rw[this];exact Rat.le_refl
  | false=>
   have h5:=hx.1 j hj hf
   have:0≤(c j-p.kv y j)*x j:=Rat.mul_nonneg h3.1 h5
   grind
 grind
theorem zd.V0(hv:p.Valid){c x y:Nat→Rat}(h:p.zd c x y):p.rY c (cJ p.n c x):=
 ⟨⟨x,h.fm,rfl⟩,fun x' tn=>by rw[←h.eq];exact below hv tn h.signed h.pM⟩
theorem afj{r:Int}{x y:Rat}(hx:vA r x)(hy:vA r y):vA r (x+y):=
 ⟨fun e=>by have:=hx.1 e;have:=hy.1 e;grind,fun e=>by have:=hx.2.1 e;have:=hy.2.1 e;grind,fun e=>by have:=hx.2.2 e;have:=hy.2.2 e;grind⟩
theorem afk{r:Int}{x k:Rat}(hx:vA r x)(hk:0≤k):vA r (k*x):=
 ⟨fun e=>by have:=hx.1 e;have:0≤k*(-x):=Rat.mul_nonneg hk (by grind)
            grind,fun e=>by have:=hx.2.1 e;rw[this];grind,fun e=>Rat.mul_nonneg hk (hx.2.2 e)⟩
theorem ib.move{t:Rat}{x r:Nat→Rat}(hx:p.ib t x)(hr:p.ib 0 r){k:Rat}(hk:0≤k):p.ib t (fun j=>x j+k*r j):=by
 refine⟨fun j hj hf=> ?_,fun i hi=> ?_⟩
 ·have h1:=hx.1 j hj hf
  have h2:=Rat.mul_nonneg hk (hr.1 j hj hf)
  grind
 ·have h1:=afj (hx.2 i hi) (afk (hr.2 i hi) hk)
  rw[VX,VY]
  have e:cJ p.n (p.a i) x-p.b i*t+k*(cJ p.n (p.a i) r-p.b i*0)=cJ p.n (p.a i) x+k*cJ p.n (p.a i) r-p.b i*t:=by grind
  rwa [e]at h1
theorem zf.V1{c x r:Nat→Rat}(h:p.zf c x r):p.vB c:=by
 refine⟨⟨x,h.fm⟩,fun v=> ?_⟩
 have hn:=h.neg
 by_cases hv:cJ p.n c x<v
 ·exact⟨x,h.fm,hv⟩
 ·have hd:0 < - cJ p.n c r:=by grind
  have hq:0≤(cJ p.n c x-v)/(- cJ p.n c r):=av.O8 (by grind) hd
  refine⟨_,h.fm.move h.oM (k:=(cJ p.n c x-v)/(- cJ p.n c r)+1) (by grind),?_⟩
  rw[VX,VY]
  have e:(cJ p.n c x-v)/(- cJ p.n c r)*(- cJ p.n c r)=cJ p.n c x-v:=by grind
  grind
theorem V2{c:Nat→Rat}{v:Rat}(h:p.rY c v)(k:p.pN):False:=by
 obtain⟨⟨x,hx,_⟩,_⟩:=h
 exact k x hx
theorem V3{c:Nat→Rat}(h:p.vB c)(k:p.pN):False:=by
 obtain⟨⟨x,hx⟩,_⟩:=h
 exact k x hx
theorem V4{c:Nat→Rat}{v:Rat}(h:p.rY c v)(k:p.vB c):False:=by
 obtain⟨x,hx,bX⟩:=k.2 v
 have:=h.2 x hx
 grind
theorem afl{c:Nat→Rat}{v w:Rat}(h:p.rY c v)(k:p.rY c w):v=w:=by
 obtain⟨⟨x,hx,rfl⟩,h2⟩:=h
 obtain⟨⟨y,hy,rfl⟩,k2⟩:=k
 have h3:=h2 y hy
 have h4:=k2 x hx
 grind
end LP
def iq(f:Nat→Rat):Option Nat→Rat
 | some k=>f k
 | none=>0
structure dL(p:LP)(A:Nat→Nat→Rat)(w u:Nat)(plus:Nat→Nat)(minus slack:Nat→Option Nat)(unit:Nat→Nat)(sg:Nat→Rat):Prop where
 valid:p.Valid
 uw:u≤w
 V5:∀i,i<p.m→sg i=1∨sg i = -1
 rhs:∀i,i<p.m→A i w=p.b i*sg i∧0≤A i w
 pl:∀j,j<p.n→plus j<u∧∀i,i<p.m→A i (plus j)=p.a i j*sg i
 mi:∀j,j<p.n→(p.free j=false→minus j=none)∧∀k,minus j=some k→k<u∧∀i,i<p.m→A i k = - (p.a i j*sg i)
 Pk:∀j,j<p.n→p.free j=true→∃k,minus j=some k
 sl:∀i,i<p.m→(p.rel i=2→slack i=none)∧(p.rel i≠2→∃k,slack i=some k)∧∀k,slack i=some k→k<u∧∀q,q<p.m→A q k=if q=i then(if p.rel i=1 then sg i else-sg i)else 0
 un:∀i,i<p.m→unit i<w∧∀q,q<p.m→A q (unit i)=if q=i then 1 else 0
 sum:∀f,a7 u f=a7 p.n (fun j=>f (plus j)+iq f (minus j))+a7 p.m (fun i=>iq f (slack i))
namespace dL
variable {p:LP} {A:Nat→Nat→Rat} {w u:Nat} {plus:Nat→Nat} {minus slack:Nat→Option Nat} {unit:Nat→Nat} {sg:Nat→Rat}
theorem V6{u w:Nat}(h:u≤w)(f:Nat→Rat)(h0:∀j,u≤j→j<w→f j=0):a7 w f=a7 u f:=by
 induction w with
 | zero=>obtain rfl:u=0:=by omega
         rfl
 | succ w ih=>
  by_cases e:u=w+1
  ·rw[e]
  ·rw[gq,ih (by omega) (fun j h1 h2=>h0 j h1 (by omega)),h0 w (by omega) (by omega)];grind
def vec(plus:Nat→Nat)(minus:Nat→Option Nat)(z:Nat→Rat)(j:Nat):Rat:=z (plus j)-iq z (minus j)
theorem meets(L:dL p A w u plus minus slack unit sg){z:Nat→Rat}{t:Rat}(hs:∀i,i<p.m→a7 (w+1) (fun j=>A i j*z j)=0)(hw:z w = - t)
  (hn:∀j,j<u→0≤z j) (ha:∀j,u≤j→j<w→z j=0):p.ib t (vec plus minus z):=by
 refine⟨fun j hj hf=> ?_,fun i hi=> ?_⟩
 ·unfold vec
  rw[(L.mi j hj).1 hf]
  have:=hn _ (L.pl j hj).1
  simp only[iq];grind
 ·have h1:=hs i hi
  rw[gq,hw,V6 L.uw _ (fun j h1 h2=>by rw[ha j h1 h2];grind),L.sum]at h1
  have h2:a7 p.n (fun j=>A i (plus j)*z (plus j)+iq (fun k=>A i k*z k) (minus j))=cJ p.n (p.a i) (vec plus minus z)*sg i:=by
   unfold cJ
   rw[←vy]
   refine eM fun j hj=> ?_
   rw[(L.pl j hj).2 i hi]
   unfold vec
   cases hm:minus j with
   | none=>simp only[iq];grind
   | some k=>
    have:=((L.mi j hj).2 k hm).2 i hi
    simp only[iq,this];grind
  rw[h2]at h1
  have h3:a7 p.m (fun q=>iq (fun k=>A i k*z k) (slack q))=iq (fun k=>A i k*z k) (slack i):=by
   refine tQ hi _ fun q hq bo=> ?_
   cases hm:slack q with
   | none=>rfl
   | some k=>
    have:=((L.sl q hq).2.2 k hm).2 i hi
    rw[if_neg (fun e=>bo e.symm)]at this
    simp only[iq,this];grind
  rw[h3,(L.rhs i hi).1]at h1
  have rZ:=L.V5 i hi
  have j7:=L.sl i hi
  have key:∀s:Rat,cJ p.n (p.a i) (vec plus minus z)*sg i+s*sg i+p.b i*sg i * -t=0→cJ p.n (p.a i) (vec plus minus z)-p.b i*t = - s:=by
   intro s hs
   rcases rZ with e | e <;> rw[e]at hs <;> grind
  rcases L.valid i hi with e | e | e
  ·obtain⟨k,hk⟩:=j7.2.1 (by omega)
   have h4:=j7.2.2 k hk
   have h5:=h4.2 i hi
   rw[if_pos rfl,if_pos e]at h5
   have h6:=hn k h4.1
   rw[hk]at h1
   simp only[iq,h5]at h1
   have h7:=key (z k) (by grind)
   exact⟨fun _=>by grind,fun e'=>by omega,fun e'=>by omega⟩
  ·rw[j7.1 e]at h1
   simp only[iq]at h1
   have h7:=key 0 (by grind)
   exact⟨fun e'=>by omega,fun _=>by grind,fun e'=>by omega⟩
  ·obtain⟨k,hk⟩:=j7.2.1 (by omega)
   have h4:=j7.2.2 k hk
   have h5:=h4.2 i hi
   rw[if_pos rfl,if_neg (by omega)]at h5
   have h6:=hn k h4.1
   rw[hk]at h1
   simp only[iq,h5]at h1
   have h7:=key (- z k) (by grind)
   exact⟨fun e'=>by omega,fun e'=>by omega,fun _=>by grind⟩
def tS(A:Nat→Nat→Rat)(m w:Nat)(c0 c:Nat→Rat):Prop:=∃l:Nat→Rat,∀j,j≤w→c j=c0 j-a7 m (fun k=>l k*A k j)
section
variable (L:dL p A w u plus minus slack unit sg) {c0 c:Nat→Rat} (ho:tS A p.m w c0 c)
include L ho
theorem Pm:(∀j,j<p.n→p.kv (fun i=>sg i*(c0 (unit i)-c (unit i))) j=c0 (plus j)-c (plus j)∧∀k,minus j=some k→p.kv (fun i=>sg i*(c0 (unit i)-c (unit i))) j=c k-c0 k)
  ∧p.xh (fun i=>sg i*(c0 (unit i)-c (unit i)))=c0 w-c w∧(∀i,i<p.m→∀k,slack i=some k→sg i*(c0 (unit i)-c (unit i))=if p.rel i=1 then c0 k-c k else c k-c0 k):=by
 obtain⟨l,hl⟩:=ho
 have hu:∀i,i<p.m→c0 (unit i)-c (unit i)=l i:=fun i hi=>by
  have h1:=L.un i hi
  rw[hl _ (by omega),tQ hi (fun k=>l k*A k (unit i)) (fun q hq bo=>by rw[h1.2 q hq,if_neg bo];grind),h1.2 i hi,if_pos rfl];grind
 refine⟨fun j hj=>⟨?_,fun k hk=> ?_⟩,?_,fun i hi k hk=> ?_⟩
 ·have h1:=L.pl j hj
  have bX:=L.uw
  rw[hl _ (by omega)]
  unfold LP.kv
  rw[eM (g:=fun k=>l k*A k (plus j)) (fun i hi=>by show sg i*(c0 (unit i)-c (unit i))*_=_;rw[hu i hi,h1.2 i hi];grind)]
  grind
 ·have h1:=(L.mi j hj).2 k hk
  have bX:=L.uw
  rw[hl _ (by omega)]
  unfold LP.kv
  rw[eM (g:=fun q=> - (l q*A q k)) (fun i hi=>by show sg i*(c0 (unit i)-c (unit i))*_=_;rw[hu i hi,h1.2 i hi];grind),KS]
  grind
 ·rw[hl _ (Nat.le_refl _)]
  unfold LP.xh
  rw[eM (g:=fun k=>l k*A k w) (fun i hi=>by show sg i*(c0 (unit i)-c (unit i))*_=_;rw[hu i hi,(L.rhs i hi).1];grind)]
  grind
 ·have h1:=(L.sl i hi).2.2 k hk
  have bX:=L.uw
  rw[hu i hi,hl k (by omega),tQ hi (fun q=>l q*A q k) (fun q hq bo=>by rw[h1.2 q hq,if_neg bo];grind),h1.2 i hi,if_pos rfl]
  split <;> grind
theorem V7(h0:∀i,i<p.m→∀k,slack i=some k→c0 k=0)(hn:∀j,j<u→0≤c j):p.Signed (fun i=>sg i*(c0 (unit i)-c (unit i))):=fun i hi=>by
 have h1:=(Pm L ho).2.2 i hi
 refine⟨fun e=> ?_,fun e=> ?_⟩
 ·obtain⟨k,hk⟩:=(L.sl i hi).2.1 (by omega)
  have h2:=h1 k hk
  have h3:=hn k ((L.sl i hi).2.2 k hk).1
  rw[if_neg (by omega),h0 i hi k hk]at h2
  simp only[h2];grind
 ·obtain⟨k,hk⟩:=(L.sl i hi).2.1 (by omega)
  have h2:=h1 k hk
  have h3:=hn k ((L.sl i hi).2.2 k hk).1
  rw[if_pos e,h0 i hi k hk]at h2
  simp only[h2];grind
theorem afm(h0:∀j,j<u→c0 j=0)(hw:c0 w=0)(hn:∀j,j<u→0≤c j)(fV:c w<0):p.ze (fun i=>sg i*(c0 (unit i)-c (unit i))):=by
 have hd:=Pm L ho
 refine⟨V7 L ho (fun i hi k hk=>h0 k ((L.sl i hi).2.2 k hk).1) hn,fun j hj=>⟨?_,fun hf=> ?_⟩,?_⟩
 ·have h1:=L.pl j hj
  rw[(hd.1 j hj).1,h0 _ h1.1]
  have:=hn _ h1.1
  grind
 ·obtain⟨k,hk⟩:=L.Pk j hj hf
  have h1:=(L.mi j hj).2 k hk
  rw[(hd.1 j hj).2 k hk,h0 k h1.1]
  have:=hn _ h1.1
  grind
 ·rw[hd.2.1,hw];grind
end
end dL
end Lp
namespace Lp
namespace av
structure Rows(A:Nat→Nat→Rat)(m' w:Nat)(T:av):Prop where
 m:T.m=m'
 n:T.n=w
 mul:∃R:Nat→Nat→Rat,∀i,i<m'→∀j,j≤w→T.A i j=a7 m' (fun k=>R i k*A k j)
 nI:∀x,T.pL x↔∀i,i<m'→a7 (w+1) (fun j=>A i j*x j)=0
section
variable {A:Nat→Nat→Rat} {m w:Nat} {T:av}
theorem afn(hA:∀i j,T.A i j=A i j)(hm:T.m=m)(hn:T.n=w):Rows A m w T:=by
 refine⟨hm,hn,⟨fun i k=>if k=i then 1 else 0,fun i hi j _=> ?_⟩,fun x=> ?_⟩
 ·rw[tQ hi (fun k=>(if k=i then 1 else 0)*A k j) (fun q _ bo=>by rw[if_neg bo];grind),if_pos rfl,hA];grind
 ·unfold pL
  rw[hm,hn]
  constructor
  ·intro h i hi
   rw[←h i hi]
   exact eM fun j _=>by rw[hA]
  ·intro h i hi
   rw[←h i hi]
   exact eM fun j _=>by rw[hA]
theorem Rows.pivot(h:Rows A m w T){r s:Nat}(hr:r<m)(hp:T.A r s≠0):Rows A m w (T.pivot r s):=by
 obtain⟨R,hR⟩:=h.mul
 refine⟨h.m,h.n,⟨fun i k=>if i=r then R r k/T.A r s else R i k-T.A i s*(R r k/T.A r s),fun i hi j hj=> ?_⟩,fun x=> ?_⟩
 ·have e1:a7 m (fun k=>R r k/T.A r s*A k j)=T.A r j/T.A r s:=by
   rw[hR r hr j hj,Rat.div_def,←vy]
   exact eM fun k _=>by grind
  by_cases e:i=r
  ·simp only[av.pivot,if_pos e]
   exact e1.symm
  ·simp only[av.pivot,if_neg e]
   rw[←e1,hR i hi j hj,←tP,←Gg]
   exact eM fun k _=>by grind
 ·rw[O7 (by rw[h.m];exact hr) hp,h.nI]
theorem Rows.off(h:Rows A m w T)(c0 f:Nat→Rat){c:Nat→Rat}(hc:∀j,j≤w→c j=c0 j-a7 m (fun i=>f i*T.A i j)):dL.tS A m w c0 c:=by
 obtain⟨R,hR⟩:=h.mul
 refine⟨fun k=>a7 m (fun i=>f i*R i k),fun j hj=> ?_⟩
 rw[hc j hj]
 congr 1
 rw[eM (g:=fun i=>a7 m (fun k=>f i*R i k*A k j)) (fun i hi=>by rw[hR i hi j hj,←tP];exact eM fun k _=>by grind),KU]
 exact eM fun k _=>vy _ _ _
theorem Rows.Pn(h:Rows A m w T){c0:Nat→Rat}(ho:dL.tS A m w c0 T.c){r s:Nat}(hr:r<m):dL.tS A m w c0 (T.pivot r s).c:=by
 obtain⟨R,hR⟩:=h.mul
 obtain⟨l,hl⟩:=ho
 refine⟨fun k=>l k+T.c s*(R r k/T.A r s),fun j hj=> ?_⟩
 show T.c j-T.c s*(T.A r j/T.A r s)=_
 have e1:a7 m (fun k=>R r k/T.A r s*A k j)=T.A r j/T.A r s:=by
  rw[hR r hr j hj,Rat.div_def,←vy]
  exact eM fun k _=>by grind
 have e2:a7 m (fun k=>(l k+T.c s*(R r k/T.A r s))*A k j)=a7 m (fun k=>l k*A k j)+T.c s*a7 m (fun k=>R r k/T.A r s*A k j):=by
  rw[←tP,←O6]
  exact eM fun k _=>by grind
 rw[e2,e1,hl j hj]
 grind
theorem Rows.cost(h:Rows A m w T){c0:Nat→Rat}(ho:dL.tS A m w c0 T.c){x:Nat→Rat}(hx:T.pL x):T.cost x=a7 (w+1) (fun j=>c0 j*x j):=by
 obtain⟨l,hl⟩:=ho
 unfold av.cost
 rw[h.n]
 have e1:a7 (w+1) (fun j=>a7 m (fun k=>l k*A k j)*x j)=0:=by
  rw[eM (g:=fun j=>a7 m (fun k=>l k*(A k j*x j))) (fun j _=>by rw[←vy];exact eM fun k _=>by grind),KU]
  refine lM fun k hk=> ?_
  rw[tP,(h.nI x).1 hx k hk];grind
 rw[eM (g:=fun j=>c0 j*x j-a7 m (fun k=>l k*A k j)*x j) (fun j hj=>by rw[hl j (by omega)];grind),Gg,e1]
 grind
end
def pt(T:av)(j:Nat):Rat:=if j=T.n then -1 else a7 T.m (fun i=>if T.B i=j then T.A i T.n else 0)
section
variable {T:av}
theorem V8(h:T.WF)(j:Nat):T.pt j = - T.dir T.n j:=by
 unfold pt dir
 by_cases e:j=T.n
 ·rw[if_pos e,if_pos e,lM]
  ·grind
  ·intro i hi
   have:=h.lt i hi
   rw[if_neg (by omega)]
 ·rw[if_neg e,if_neg e];grind
theorem Po(h:T.WF):T.pL T.pt:=fun i hi=>by
 have:=za h T.n (Nat.le_refl _) i hi
 rw[eM (g:=fun j=> - (T.A i j*T.dir T.n j)) (fun j _=>by rw[V8 h];grind),KS,this];grind
theorem V9(h:T.WF):T.cost T.pt = - T.c T.n:=by
 have:=DN h T.n (Nat.le_refl _)
 unfold cost at this⊢
 rw[eM (g:=fun j=> - (T.c j*T.dir T.n j)) (fun j _=>by rw[V8 h];grind),KS,this]
theorem Wa(h:T.WF){i:Nat}(hi:i<T.m):T.pt (T.B i)=T.A i T.n:=by
 have:=h.lt i hi
 unfold pt
 rw[if_neg (by omega),tQ hi,if_pos rfl]
 intro k hk bo
 rw[if_neg (fun e=>bo (h.inj hk hi e))]
theorem Wb(hf:T.jO){j:Nat}(hj:j<T.n):0≤T.pt j:=by
 unfold pt
 rw[if_neg (by omega)]
 refine Gh fun i hi=> ?_
 split
 ·exact hf i hi
 ·exact Rat.le_refl
theorem Wc{j:Nat}(hj:j<T.n)(h:∀i,i<T.m→T.B i=j→T.A i T.n=0):T.pt j=0:=by
 unfold pt
 rw[if_neg (by omega)]
 refine lM fun i hi=> ?_
 split
 ·rename_i e;exact h i hi e
 ·rfl
theorem Wd{s:Nat}(h:∀i,i<T.m→T.A i s≤0)(j:Nat):0≤T.dir s j:=by
 unfold dir
 have h1:0≤a7 T.m (fun i=> - (if T.B i=j then T.A i s else 0)):=Gh fun i hi=>by
  split
  ·have:=h i hi;grind
  ·grind
 rw[KS]at h1
 split <;> grind
theorem afo(h:T.WF){s:Nat}(hs:s<T.n):T.dir s T.n=0:=by
 unfold dir
 rw[if_neg (by omega),lM]
 ·grind
 ·intro i hi
  have:=h.lt i hi
  rw[if_neg (by omega)]
theorem afp{s j:Nat}(hj:j≠s)(h:∀i,i<T.m→T.B i=j→T.A i s=0):T.dir s j=0:=by
 unfold dir
 rw[if_neg hj,lM]
 ·grind
 ·intro i hi
  split
  ·rename_i e;exact h i hi e
  ·rfl
end
def jq(u w j:Nat):Rat:=if u≤j∧j<w then 1 else 0
theorem We(u w j:Nat):0≤jq u w j:=by
 unfold jq;split <;> grind
theorem Pp{u w j:Nat}(h:j<u):jq u w j=0:=by
 unfold jq;rw[if_neg (by omega)]
theorem Wf(u w:Nat):jq u w w=0:=by
 unfold jq;rw[if_neg (by omega)]
section
variable {A:Nat→Nat→Rat} {m w u:Nat} {T:av}
theorem afq(hW:T.WF)(h:Rows A m w T)(ho:dL.tS A m w (jq u w) T.c){s:Nat}(hs:s<w)(fV:T.c s<0)(hA:∀i,i<T.m→T.A i s≤0):False:=by
 have h1:=DN hW s (by rw[h.n];omega)
 rw[h.cost ho (za hW s (by rw[h.n];omega))]at h1
 have h2:0≤a7 (w+1) (fun j=>jq u w j*T.dir s j):=Gh fun j _=>Rat.mul_nonneg (We u w j) (Wd hA j)
 grind
theorem afr{n k:Nat}(f:Nat→Rat)(h:∀i,i<n→0≤f i)(hk:k<n):f k≤a7 n f:=by
 induction n with
 | zero=>omega
 | succ n ih=>
  rw[gq]
  have h0:=h n (by omega)
  by_cases e:k=n
  ·subst e
   have:0≤a7 k f:=Gh fun i hi=>h i (by omega)
   grind
  ·have:=ih (fun i hi=>h i (by omega)) (by omega)
   grind
theorem Wg(hW:T.WF)(hF:T.jO)(h:Rows A m w T)(ho:dL.tS A m w (jq u w) T.c)(hv:0≤T.c w):T.c w=0∧∀i,i<T.m→u≤T.B i→T.A i T.n=0:=by
 have h1:=V9 hW
 rw[h.cost ho (Po hW),h.n]at h1
 have h0:∀j,j<w+1→0≤jq u w j*T.pt j:=fun j hj=>by
  by_cases e:j=w
  ·subst e;rw[Wf];grind
  ·exact Rat.mul_nonneg (We u w j) (Wb hF (by rw[h.n];omega))
 have h2:=Gh h0
 refine⟨by grind,fun i hi hu=> ?_⟩
 have bX:=hW.lt i hi
 have h3:=afr _ h0 (k:=T.B i) (by rw[h.n]at bX;omega)
 have Wh:=bX
 rw[h.n]at Wh
 rw[Wa hW hi]at h3
 have e:jq u w (T.B i)=1:=by unfold jq;rw[if_pos ⟨hu,Wh⟩]
 rw[e]at h3
 have:=hF i hi
 grind
end
structure Clean(u k:Nat)(T:av):Prop where
 zero:∀i,i<T.m→u≤T.B i→T.A i T.n=0
 row:∀i,i<k→i<T.m→u≤T.B i→∀j,j<u→T.A i j=0
section
variable {u k:Nat} {T:av}
theorem Clean.start(h:∀i,i<T.m→u≤T.B i→T.A i T.n=0):Clean u 0 T:=⟨h,fun i hi=>by omega⟩
theorem Clean.skip(h:Clean u k T)(hk:T.B k<u∨∀j,j<u→T.A k j=0):Clean u (k+1) T:=by
 refine⟨h.zero,fun i hi hm hu=> ?_⟩
 by_cases e:i=k
 ·subst e
  rcases hk with hk | hk
  ·omega
  ·exact hk
 ·exact h.row i (by omega) hm hu
theorem Clean.afs(h:Clean u k T)(hk:k<T.m)(hu:u≤T.B k){s:Nat}(hs:s<u):Clean u (k+1) (T.pivot k s):=by
 have hz:=h.zero k hk hu
 refine⟨fun i hi hb=> ?_,fun i hi hm hb j hj=> ?_⟩
 ·have eX:i<T.m:=hi
  simp only[av.pivot]at hb⊢
  by_cases e:i=k
  ·rw[if_pos e]at hb;omega
  ·rw[if_neg e]at hb⊢
   rw[h.zero i eX hb,hz,Rat.div_def];grind
 ·have bK:i<T.m:=hm
  simp only[av.pivot]at hb⊢
  by_cases e:i=k
  ·rw[if_pos e]at hb;omega
  ·rw[if_neg e]at hb⊢
   rw[h.row i (by omega) bK hb j hj,h.row i (by omega) bK hb s hs];grind
theorem Clean.fm(h:Clean u k T)(hF:T.jO)(hk:k<T.m)(hu:u≤T.B k)(s:Nat):(T.pivot k s).jO:=fun i hi=>by
 have eX:i<T.m:=hi
 have hz:=h.zero k hk hu
 have h1:=hF i eX
 show 0≤(if i=k then T.A k T.n/T.A k s else T.A i T.n-T.A i s*(T.A k T.n/T.A k s))
 rw[hz]
 split
 ·rw[Rat.div_def];grind
 ·rw[Rat.div_def];grind
theorem Clean.Gl(h:Clean u T.m T){r s:Nat}(hb:T.oL u r s):Clean u (T.pivot r s).m (T.pivot r s):=by
 have hr:T.B r<u:=by
  false_or_by_contra
  have:=h.row r hb.rm hb.rm (by omega) s hb.su
  have:=hb.pos
  grind
 have hs:=hb.su
 refine⟨fun i hi hu=> ?_,fun i _ hi hu j hj=> ?_⟩
 ·have eX:i<T.m:=hi
  simp only[av.pivot]at hu⊢
  by_cases e:i=r
  ·rw[if_pos e]at hu;omega
  ·rw[if_neg e]at hu⊢
   rw[h.zero i eX hu,h.row i eX eX hu s hs];grind
 ·have eX:i<T.m:=hi
  simp only[av.pivot]at hu⊢
  by_cases e:i=r
  ·rw[if_pos e]at hu;omega
  ·rw[if_neg e]at hu⊢
   rw[h.row i eX eX hu j hj,h.row i eX eX hu s hs];grind
end
structure Gm(p:LP)(w:Nat)(plus:Nat→Nat)(minus slack:Nat→Option Nat)(c c0:Nat→Rat):Prop where
 pl:∀j,j<p.n→c0 (plus j)=c j
 mi:∀j,j<p.n→∀k,minus j=some k→c0 k = - c j
 sl:∀i,i<p.m→∀k,slack i=some k→c0 k=0
 last:c0 w=0
section
variable {p:LP} {A:Nat→Nat→Rat} {w u:Nat} {plus:Nat→Nat} {minus slack:Nat→Option Nat} {unit:Nat→Nat} {sg c c0:Nat→Rat} {T:av}
theorem Wi(L:dL p A w u plus minus slack unit sg)(hc:Gm p w plus minus slack c c0){z:Nat→Rat}(ha:∀j,u≤j→j<w→z j=0):
  a7 (w+1) (fun j=>c0 j*z j)=cJ p.n c (dL.vec plus minus z):=by
 rw[gq,hc.last,dL.V6 L.uw _ (fun j h1 h2=>by rw[ha j h1 h2];grind),L.sum]
 have h1:a7 p.m (fun i=>iq (fun j=>c0 j*z j) (slack i))=0:=lM fun i hi=>by
  cases hs:slack i with
  | none=>rfl
  | some k=>simp only[iq];rw[hc.sl i hi k hs];grind
 rw[h1]
 unfold cJ dL.vec
 have h2:a7 p.n (fun j=>c0 (plus j)*z (plus j)+iq (fun j=>c0 j*z j) (minus j))=a7 p.n (fun j=>c j*(z (plus j)-iq z (minus j))):=eM fun j hj=>by
  rw[hc.pl j hj]
  cases hm:minus j with
  | none=>simp only[iq];grind
  | some k=>simp only[iq];rw[hc.mi j hj k hm];grind
 rw[h2];grind
theorem Wj(hC:Clean u T.m T){j:Nat}(h1:u≤j)(h2:j<T.n):T.pt j=0:=Wc h2 fun i hi e=>hC.zero i hi (by omega)
theorem Wk(L:dL p A w u plus minus slack unit sg)(hW:T.WF)(hF:T.jO)(h:Rows A p.m w T)(hC:Clean u T.m T):p.ib 1 (dL.vec plus minus T.pt):=by
 have hu:=L.uw
 refine L.meets ((h.nI _).1 (Po hW)) ?_ (fun j hj=>Wb hF (by rw[h.n];omega)) (fun j h1 h2=>Wj hC h1 (by rw[h.n];omega))
 unfold pt
 rw[if_pos h.n.symm]
theorem Wl(L:dL p A w u plus minus slack unit sg)(hW:T.WF)(h:Rows A p.m w T)(hC:Clean u T.m T)(hc:Gm p w plus minus slack c c0)(ho:dL.tS A p.m w c0 T.c):
  cJ p.n c (dL.vec plus minus T.pt) = - T.c w:=by
 rw[←Wi L hc (fun j h1 h2=>Wj hC h1 (by rw[h.n];omega)),←h.cost ho (Po hW),V9 hW,h.n]
theorem aft(L:dL p A w u plus minus slack unit sg)(hW:T.WF)(hF:T.jO)(h:Rows A p.m w T)(hC:Clean u T.m T)(hc:Gm p w plus minus slack c c0)(ho:dL.tS A p.m w c0 T.c)(hn:∀j,j<u→0≤T.c j):
  p.zd c (dL.vec plus minus T.pt) (fun i=>sg i*(c0 (unit i)-T.c (unit i))):=by
 have hd:=dL.Pm L ho
 refine⟨Wk L hW hF h hC,dL.V7 L ho (fun i hi k hk=>hc.sl i hi k hk) hn,fun j hj=>⟨?_,fun hf=> ?_⟩,?_⟩
 ·have h1:=L.pl j hj
  rw[(hd.1 j hj).1,hc.pl j hj]
  have:=hn _ h1.1
  grind
 ·obtain⟨k,hk⟩:=L.Pk j hj hf
  have h1:=(L.mi j hj).2 k hk
  rw[(hd.1 j hj).2 k hk,hc.mi j hj k hk]
  have:=hn _ h1.1
  grind
 ·rw[hd.2.1,hc.last,Wl L hW h hC hc ho];grind
theorem afu(L:dL p A w u plus minus slack unit sg)(hW:T.WF)(hF:T.jO)(h:Rows A p.m w T)(hC:Clean u T.m T)(hc:Gm p w plus minus slack c c0)(ho:dL.tS A p.m w c0 T.c){s:Nat}(hs:s<u)(fV:T.c s<0)
  (hA:∀i,i<T.m→T.A i s≤0):p.zf c (dL.vec plus minus T.pt) (dL.vec plus minus (T.dir s)):=by
 have hu:=L.uw
 have mq:s<T.n:=by rw[h.n];omega
 have ha:∀j,u≤j→j<w→T.dir s j=0:=fun j h1 h2=>afp (by omega) fun i hi e=>hC.row i hi hi (by omega) s hs
 refine⟨Wk L hW hF h hC,L.meets ((h.nI _).1 (za hW s (by omega))) ?_ (fun j _=>Wd hA j) ha,?_⟩
 ·have:=afo hW mq
  rw[h.n]at this
  rw[this];grind
 ·rw[←Wi L hc ha,←h.cost ho (za hW s (by omega)),DN hW s (by omega)]
  exact fV
end
end av
end Lp
namespace Lp
structure Prg where
 free:List Bool
 rows:List (List Rat×Int×Rat)
def fn(l:List Rat)(j:Nat):Rat:=l.getD j 0
theorem oN{l:List Rat}{j:Nat}{q:Rat}(h:l[j]? = some q):fn l j=q:=by simp[fn,List.getD,h]
theorem afv{l:List Rat}{j:Nat}(h:l.length≤j):fn l j=0:=by simp[fn,List.getD,List.getElem?_eq_none h]
def Prg.row(p:Prg)(i:Nat):List Rat×Int×Rat:=p.rows.getD i ([],0,0)
theorem Prg.r6{p:Prg}{i:Nat}{r:List Rat×Int×Rat}(h:p.rows[i]? = some r):p.row i=r:=by simp[Prg.row,List.getD,h]
def Prg.lp(p:Prg):LP:=⟨p.free.length,p.rows.length,fun j=>p.free.getD j false,fun i j=>fn (p.row i).1 j,fun i=>(p.row i).2.1,fun i=>(p.row i).2.2⟩
theorem Prg.Bu{p:Prg}{j:Nat}{b:Bool}(h:p.free[j]? = some b):p.lp.free j=b:=by simp[Prg.lp,List.getD,h]
def Wm(n:Nat)(r:List Rat×Int×Rat):Prop:=r.1.length=n∧(r.2.1=1∨r.2.1=2∨r.2.1=3)
structure Prg.Ok(p:Prg):Prop where
 pM:p.free.length≤400
 rows:p.rows.length≤800
 row:∀(i:Nat)(r:List Rat×Int×Rat),p.rows[i]? = some r→Wm p.free.length r
theorem Prg.Ok.valid{p:Prg}(h:p.Ok):p.lp.Valid:=fun i hi=>by
 have eX:i<p.rows.length:=hi
 have:=(h.row i _ (List.getElem?_eq_getElem eX)).2
 show (p.row i).2.1=1∨(p.row i).2.1=2∨(p.row i).2.1=3
 rwa [Prg.r6 (List.getElem?_eq_getElem eX)]
structure Wn(p:Prg)(x:List Rat):Prop where
 ok:p.Ok
 len:x.length=p.free.length
 meets:p.lp.ib 1 (fn x)
structure Pq(p:Prg)(c x y:List Rat):Prop where
 fm:Wn p x
 afw:c.length=p.free.length
 afx:y.length=p.rows.length
 cert:p.lp.zd (fn c) (fn x) (fn y)
structure Wo(p:Prg)(y:List Rat):Prop where
 ok:p.Ok
 afx:y.length=p.rows.length
 cert:p.lp.ze (fn y)
structure Wp(p:Prg)(c x r:List Rat):Prop where
 fm:Wn p x
 afw:c.length=p.free.length
 iu:r.length=p.free.length
 cert:p.lp.zf (fn c) (fn x) (fn r)
structure vC where
 status:Int
 value:Rat
 x:List Rat
 r7:List Rat
 oM:List Rat
def zh(p:Prg)(c:List Rat)(s:vC):Prop:=
 (s.status=1∧s.oM = []∧Pq p c s.x s.r7∧s.value=cJ p.free.length (fn c) (fn s.x))∨
 (s.status=2∧s.value=0∧s.x = []∧s.oM = []∧c.length=p.free.length∧Wo p s.r7)∨
 (s.status=3∧s.value=0∧s.r7 = []∧Wp p c s.x s.oM)
theorem zh.KZ{p:Prg}{c:List Rat}{s:vC}(h:zh p c s):(s.status=1∧p.lp.rY (fn c) s.value)∨(s.status=2∧p.lp.pN∧s.value=0)∨(s.status=3∧p.lp.vB (fn c)∧s.value=0):=by
 rcases h with ⟨h1,_,h2,h3⟩ | ⟨h1,h2,_,_,_,h3⟩ | ⟨h1,h2,_,h3⟩
 ·exact .inl ⟨h1,by rw[h3];exact h2.cert.V0 h2.fm.ok.valid⟩
 ·exact .inr (.inl ⟨h1,h3.cert.isInf h3.ok.valid,h2⟩)
 ·exact .inr (.inr ⟨h1,h3.cert.V1,h2⟩)
theorem afy{p q:LP}{c d:Nat→Rat}{s t:Int}{v w:Rat}(Bv:p.pN↔q.pN)(Wq:∀u,p.rY c u→q.rY d u)(Wr:p.vB c→q.vB d)
  (h:(s=1∧p.rY c v)∨(s=2∧p.pN∧v=0)∨(s=3∧p.vB c∧v=0)) (k:(t=1∧q.rY d w)∨(t=2∧q.pN∧w=0)∨(t=3∧q.vB d∧w=0)):s=t∧v=w:=by
 rcases h with ⟨h1,h2⟩ | ⟨h1,h2,h3⟩ | ⟨h1,h2,h3⟩
 ·rcases k with ⟨k1,k2⟩ | ⟨k1,k2,k3⟩ | ⟨k1,k2,k3⟩
  ·exact⟨h1.trans k1.symm,LP.afl (Wq _ h2) k2⟩
  ·exact(LP.V2 h2 (Bv.2 k2)).elim
  ·exact(LP.V4 (Wq _ h2) k2).elim
 ·rcases k with ⟨k1,k2⟩ | ⟨k1,k2,k3⟩ | ⟨k1,k2,k3⟩
  ·exact(LP.V2 k2 (Bv.1 h2)).elim
  ·exact⟨h1.trans k1.symm,h3.trans k3.symm⟩
  ·exact(LP.V3 k2 (Bv.1 h2)).elim
 ·rcases k with ⟨k1,k2⟩ | ⟨k1,k2,k3⟩ | ⟨k1,k2,k3⟩
  ·exact(LP.V4 k2 (Wr h2)).elim
  ·exact(LP.V3 (Wr h2) k2).elim
  ·exact⟨h1.trans k1.symm,h3.trans k3.symm⟩
theorem zh.at1{p:Prg}{c:List Rat}{S:vC}(h:zh p c S)(e:S.status=1):S.oM = []∧Pq p c S.x S.r7∧S.value=cJ p.free.length (fn c) (fn S.x):=by
 rcases h with ⟨_,h⟩ | ⟨h1,_⟩ | ⟨h1,_⟩
 ·exact h
 ·omega
 ·omega
end Lp
namespace Go.aq
open Go.Proofs Num
theorem afz(p q:Rat):((p.num*(q.den:Int)+q.num*(p.den:Int):Int):Rat)/(((p.den:Int)*(q.den:Int):Int):Rat)=p+q:=by
 have h1:=tI p
 have h2:=tI q
 have h3:=DJ p
 have h4:=DJ q
 rw[Rat.intCast_add,Rat.intCast_mul,Rat.intCast_mul,Rat.intCast_mul]
 grind
theorem afA(p q:Rat):((p.num*q.num:Int):Rat)/(((p.den:Int)*(q.den:Int):Int):Rat)=p*q:=by
 have h1:=tI p
 have h2:=tI q
 have h3:=DJ p
 have h4:=DJ q
 rw[Rat.intCast_mul,Rat.intCast_mul]
 grind
theorem afB{q:Rat}(h:q≠0):((q.num:Int):Rat)≠0:=fun e=>h (by
 have:q.num=0:=by exact_mod_cast e
 exact Rat.num_eq_zero.1 this)
theorem Ws(p:Rat){q:Rat}(h:q≠0):((p.num*(q.den:Int):Int):Rat)/(((p.den:Int)*q.num:Int):Rat)=p/q:=by
 have h1:=tI p
 have h2:=tI q
 have h3:=DJ p
 have h4:=DJ q
 have h5:=afB h
 rw[Rat.intCast_mul,Rat.intCast_mul]
 grind
theorem afC(p:Rat){q:Rat}(h:q≠0):((-p.num*(q.den:Int):Int):Rat)/((-(p.den:Int)*q.num:Int):Rat)=p/q:=by
 rw[←Ws p h,Int.neg_mul,Int.neg_mul,Rat.intCast_neg,Rat.intCast_neg]
 grind
theorem afD{H:Heap}{us vs:List Value}{p q:Rat}{N:Nat}(hu:bS H us p)(hv:bS H vs q)(h1:aN p≤N)(h2:aN q≤N)(hN:(N:Int)≤1099511627776):
 Fn Tryz.prog 158 #[.agg us.toArray,.agg vs.toArray] H (tG H (p+q)):=by
 obtain⟨n1,d1,b1,rfl,dY⟩:=id hu
 obtain⟨n2,d2,b2,rfl,de⟩:=id hv;refine aZ (args:=[_,_]) Tryz.func158 rfl rfl Tryz.ntmps158 rfl rfl fun w0=> ?_;refine ah [0,1] rfl ?_;refine ae (bY rfl rfl (bY rfl rfl (bh ff rfl (ab [2,3,4] ?_))));refine ao ?_
 cases pO:xe n1 d1 b1
 ·
  skip
  refine ae (aa 1 rfl (aC rfl rfl (oK) ?_));rintro v1 H1 ⟨e1,rfl⟩;rw[e1,pO];refine aa 4 rfl (ab [2,3,4,10] ?_);refine dh rfl (az (ah [2,3,4] rfl ?_));refine bM .bJ [0,2,1,3,4,5,6] follows (by kernel_rfl) ?_;refine aa 2 rfl (aY rfl rfl (rV hu) (fun _ _ h=>by first | exact h.le | exact h.1) ?_);rintro w1 G1 ⟨fl,b8⟩;obtain⟨u1,x1,rfl,eR,fH⟩:=id b8;obtain⟨mj,ml,rfl,mm,mo⟩:=id eR;obtain⟨tJ,tK,rfl,tL,tM⟩:=id fH;refine aY rfl rfl (rV (hv.le fl)) (fun _ _ h=>by first | exact h.le | exact h.1) ?_;rintro w2 G2 ⟨dP,bU⟩;obtain⟨u2,x2,rfl,fQ,eS⟩:=id bU;obtain⟨oC,oD,rfl,oE,oF⟩:=id fQ;obtain⟨oG,oH,rfl,oI,oJ⟩:=id eS;refine aY rfl rfl (OX (N:=N) ((b8.le dP).raw.mono h1) (bU.raw.mono h2) hN) (fun _ _ h=>by first | exact h.le | exact h.1) ?_;rintro w3 G3 ⟨qA,iw⟩;obtain⟨u3,x3,rfl,oO,gT⟩:=id iw;obtain⟨Bw,By,rfl,Bz,BA⟩:=id oO;obtain⟨BB,BC,rfl,BD,BE⟩:=id gT;refine aY rfl rfl (y8 iw) (fun _ _ h=>by first | exact h.le | exact h.1) ?_;rintro w4 G4 ⟨kR,Gn,rfl,ct⟩;obtain⟨n4,d4,b4,rfl,_⟩:=id ct;obtain⟨ti,aj,ak⟩:=cH;refine aH (.inl ⟨rfl,rfl⟩) rfl rfl rfl aj ak rfl rfl rfl (ab [4] ?_)
  obtain⟨bP,aL,aM⟩:=cH;refine aB ⟨.inr rfl,_,.agg rfl Tryz.underlying121 aL aM (.nil),?_⟩;exact⟨((fl.trans dP).trans qA).trans kR,_,rfl,ct⟩
 ·
  skip
  cases pP:xe n2 d2 b2
  ·
   skip
   refine ae (aa 1 rfl (aC rfl rfl (oK) ?_));rintro v1 H1 ⟨e1,rfl⟩;rw[e1,pO];refine aa 2 rfl (aC rfl rfl (oK) ?_);rintro v1 H1 ⟨e1,rfl⟩;rw[e1,pP];refine aa 1 rfl (ab [2,3,4,10] ?_);refine dh rfl (az (ah [2,3,4] rfl ?_));refine bM .bJ [0,2,1,3,4,5,6] follows (by kernel_rfl) ?_;refine aa 2 rfl (aY rfl rfl (rV hu) (fun _ _ h=>by first | exact h.le | exact h.1) ?_);rintro w1 G1 ⟨fl,b8⟩;obtain⟨u1,x1,rfl,eR,fH⟩:=id b8;obtain⟨mj,ml,rfl,mm,mo⟩:=id eR;obtain⟨tJ,tK,rfl,tL,tM⟩:=id fH;refine aY rfl rfl (rV (hv.le fl)) (fun _ _ h=>by first | exact h.le | exact h.1) ?_;rintro w2 G2 ⟨dP,bU⟩;obtain⟨u2,x2,rfl,fQ,eS⟩:=id bU;obtain⟨oC,oD,rfl,oE,oF⟩:=id fQ;obtain⟨oG,oH,rfl,oI,oJ⟩:=id eS;refine aY rfl rfl (OX (N:=N) ((b8.le dP).raw.mono h1) (bU.raw.mono h2) hN) (fun _ _ h=>by first | exact h.le | exact h.1) ?_;rintro w3 G3 ⟨qA,iw⟩;obtain⟨u3,x3,rfl,oO,gT⟩:=id iw;obtain⟨Bw,By,rfl,Bz,BA⟩:=id oO;obtain⟨BB,BC,rfl,BD,BE⟩:=id gT;refine aY rfl rfl (y8 iw) (fun _ _ h=>by first | exact h.le | exact h.1) ?_;rintro w4 G4 ⟨kR,Gn,rfl,ct⟩;obtain⟨n4,d4,b4,rfl,_⟩:=id ct;obtain⟨ti,aj,ak⟩:=cH;refine aH (.inl ⟨rfl,rfl⟩) rfl rfl rfl aj ak rfl rfl rfl ?_
   refine ab [4] ?_;obtain⟨bP,aL,aM⟩:=cH;refine aB ⟨.inr rfl,_,.agg rfl Tryz.underlying121 aL aM (.nil),?_⟩;exact⟨((fl.trans dP).trans qA).trans kR,_,rfl,ct⟩
  obtain⟨rfl,k1,k2,k3⟩:=Bq.1 pO;obtain⟨rfl,k4,k5,k6⟩:=Bq.1 pP;obtain⟨-,rfl,rfl,-⟩:=dY.resolve_right (by rintro⟨ad,f,u,w,h,_⟩;cases h);obtain⟨-,rfl,rfl,-⟩:=de.resolve_right (by rintro⟨ad,f,u,w,h,_⟩;cases h);have fg:=den_pos p;have dK:=den_pos q;have m1:=Bo (a:=p.num) (b:=q.den) k1 k2 (by omega) k6;have m2:=Bo (a:=q.num) (b:=p.den) k4 k5 (by omega) k3;have m3:=Bo (a:=p.den) (b:=q.den) (by omega) k3 (by omega) k6;have m4:0<(p.den:Int)*(q.den:Int):=Int.mul_pos (by omega) (by omega);refine ae (aa 1 rfl (aC rfl rfl (oK) ?_));rintro v1 H1 ⟨e1,rfl⟩;rw[e1,pO];refine aa 2 rfl (aC rfl rfl (oK) ?_);rintro v1 H1 ⟨e1,rfl⟩;rw[e1,pP];refine aa 1 rfl (ab [2,3,4,10] ?_);refine cK rfl (ae (aa 4 rfl (gO rfl rfl ⟨by omega,by omega⟩ (aa 4 rfl (gO rfl rfl ⟨by omega,by omega⟩ (aF rfl rfl ⟨by omega,by omega⟩ (aa 4 rfl (gO rfl rfl ⟨by omega,by omega⟩ (aC rfl rfl (KR (by omega) (by omega) m4 (by omega)) ?_)))))))));rintro w1 G1 ⟨fl,Gp,rfl,b8⟩;rw[afz]at b8;obtain⟨n1,d1,b1,rfl,_⟩:=id b8;obtain⟨ti,aj,ak⟩:=cH;refine aH (.inl ⟨rfl,rfl⟩) rfl rfl rfl aj ak rfl rfl rfl (ab [4] ?_)
  obtain⟨bP,aL,aM⟩:=cH;refine aB ⟨.inr rfl,_,.agg rfl Tryz.underlying121 aL aM (.nil),?_⟩;exact⟨fl,_,rfl,b8⟩
theorem Gq{H:Heap}{us vs:List Value}{p q:Rat}{N:Nat}(hu:bS H us p)(hv:bS H vs q)(h1:aN p≤N)(h2:aN q≤N)(hN:(N:Int)≤1099511627776):
 Fn Tryz.prog 128 #[.agg us.toArray,.agg vs.toArray] H (tG H (p*q)):=by
 obtain⟨n1,d1,b1,rfl,dY⟩:=id hu
 obtain⟨n2,d2,b2,rfl,de⟩:=id hv;refine aZ (args:=[_,_]) Tryz.func128 rfl rfl Tryz.ntmps128 rfl rfl fun w0=> ?_;refine ah [0,1] rfl ?_;refine ae (bY rfl rfl (bY rfl rfl (bh ff rfl (ab [2,3,4] ?_))));refine ao ?_
 cases pO:xe n1 d1 b1
 ·
  skip
  refine ae (aa 1 rfl (aC rfl rfl (oK) ?_));rintro v1 H1 ⟨e1,rfl⟩;rw[e1,pO];refine aa 4 rfl (ab [2,3,4,10] ?_);refine dh rfl (az (ah [2,3,4] rfl ?_));refine bM .bJ [0,2,1,3,4,5,6] follows (by kernel_rfl) ?_;refine aa 2 rfl (aY rfl rfl (rV hu) (fun _ _ h=>by first | exact h.le | exact h.1) ?_);rintro w1 G1 ⟨fl,b8⟩;obtain⟨u1,x1,rfl,eR,fH⟩:=id b8;obtain⟨mj,ml,rfl,mm,mo⟩:=id eR;obtain⟨tJ,tK,rfl,tL,tM⟩:=id fH;refine aY rfl rfl (rV (hv.le fl)) (fun _ _ h=>by first | exact h.le | exact h.1) ?_;rintro w2 G2 ⟨dP,bU⟩;obtain⟨u2,x2,rfl,fQ,eS⟩:=id bU;obtain⟨oC,oD,rfl,oE,oF⟩:=id fQ;obtain⟨oG,oH,rfl,oI,oJ⟩:=id eS;refine aY rfl rfl (OY (N:=N) ((b8.le dP).raw.mono h1) (bU.raw.mono h2) hN) (fun _ _ h=>by first | exact h.le | exact h.1) ?_;rintro w3 G3 ⟨qA,iw⟩;obtain⟨u3,x3,rfl,oO,gT⟩:=id iw;obtain⟨Bw,By,rfl,Bz,BA⟩:=id oO;obtain⟨BB,BC,rfl,BD,BE⟩:=id gT;refine aY rfl rfl (y8 iw) (fun _ _ h=>by first | exact h.le | exact h.1) ?_;rintro w4 G4 ⟨kR,Gn,rfl,ct⟩;obtain⟨n4,d4,b4,rfl,_⟩:=id ct;obtain⟨ti,aj,ak⟩:=cH;refine aH (.inl ⟨rfl,rfl⟩) rfl rfl rfl aj ak rfl rfl rfl (ab [4] ?_)
  obtain⟨bP,aL,aM⟩:=cH;refine aB ⟨.inr rfl,_,.agg rfl Tryz.underlying121 aL aM (.nil),?_⟩;exact⟨((fl.trans dP).trans qA).trans kR,_,rfl,ct⟩
 ·
  skip
  cases pP:xe n2 d2 b2
  ·
   skip
   refine ae (aa 1 rfl (aC rfl rfl (oK) ?_));rintro v1 H1 ⟨e1,rfl⟩;rw[e1,pO];refine aa 2 rfl (aC rfl rfl (oK) ?_);rintro v1 H1 ⟨e1,rfl⟩;rw[e1,pP];refine aa 1 rfl (ab [2,3,4,10] ?_);refine dh rfl (az (ah [2,3,4] rfl ?_));refine bM .bJ [0,2,1,3,4,5,6] follows (by kernel_rfl) ?_;refine aa 2 rfl (aY rfl rfl (rV hu) (fun _ _ h=>by first | exact h.le | exact h.1) ?_);rintro w1 G1 ⟨fl,b8⟩;obtain⟨u1,x1,rfl,eR,fH⟩:=id b8;obtain⟨mj,ml,rfl,mm,mo⟩:=id eR;obtain⟨tJ,tK,rfl,tL,tM⟩:=id fH;refine aY rfl rfl (rV (hv.le fl)) (fun _ _ h=>by first | exact h.le | exact h.1) ?_;rintro w2 G2 ⟨dP,bU⟩;obtain⟨u2,x2,rfl,fQ,eS⟩:=id bU;obtain⟨oC,oD,rfl,oE,oF⟩:=id fQ;obtain⟨oG,oH,rfl,oI,oJ⟩:=id eS;refine aY rfl rfl (OY (N:=N) ((b8.le dP).raw.mono h1) (bU.raw.mono h2) hN) (fun _ _ h=>by first | exact h.le | exact h.1) ?_;rintro w3 G3 ⟨qA,iw⟩;obtain⟨u3,x3,rfl,oO,gT⟩:=id iw;obtain⟨Bw,By,rfl,Bz,BA⟩:=id oO;obtain⟨BB,BC,rfl,BD,BE⟩:=id gT;refine aY rfl rfl (y8 iw) (fun _ _ h=>by first | exact h.le | exact h.1) ?_;rintro w4 G4 ⟨kR,Gn,rfl,ct⟩;obtain⟨n4,d4,b4,rfl,_⟩:=id ct;obtain⟨ti,aj,ak⟩:=cH;refine aH (.inl ⟨rfl,rfl⟩) rfl rfl rfl aj ak rfl rfl rfl ?_
   refine ab [4] ?_;obtain⟨bP,aL,aM⟩:=cH;refine aB ⟨.inr rfl,_,.agg rfl Tryz.underlying121 aL aM (.nil),?_⟩;exact⟨((fl.trans dP).trans qA).trans kR,_,rfl,ct⟩
  obtain⟨rfl,k1,k2,k3⟩:=Bq.1 pO;obtain⟨rfl,k4,k5,k6⟩:=Bq.1 pP;obtain⟨-,rfl,rfl,-⟩:=dY.resolve_right (by rintro⟨ad,f,u,w,h,_⟩;cases h);obtain⟨-,rfl,rfl,-⟩:=de.resolve_right (by rintro⟨ad,f,u,w,h,_⟩;cases h);have fg:=den_pos p;have dK:=den_pos q;have m1:=Bo (a:=p.num) (b:=q.num) k1 k2 k4 k5;have m3:=Bo (a:=p.den) (b:=q.den) (by omega) k3 (by omega) k6;have m4:0<(p.den:Int)*(q.den:Int):=Int.mul_pos (by omega) (by omega);refine ae (aa 1 rfl (aC rfl rfl (oK) ?_));rintro v1 H1 ⟨e1,rfl⟩;rw[e1,pO];refine aa 2 rfl (aC rfl rfl (oK) ?_);rintro v1 H1 ⟨e1,rfl⟩;rw[e1,pP];refine aa 1 rfl (ab [2,3,4,10] ?_);refine cK rfl (ae (aa 4 rfl (gO rfl rfl ⟨by omega,by omega⟩ (aa 4 rfl (gO rfl rfl ⟨by omega,by omega⟩ (aC rfl rfl (KR (by omega) (by omega) m4 (by omega)) ?_))))));rintro w1 G1 ⟨fl,Gp,rfl,b8⟩;rw[afA]at b8;obtain⟨n1,d1,b1,rfl,_⟩:=id b8;obtain⟨ti,aj,ak⟩:=cH;refine aH (.inl ⟨rfl,rfl⟩) rfl rfl rfl aj ak rfl rfl rfl (ab [4] ?_);obtain⟨bP,aL,aM⟩:=cH;refine aB ⟨.inr rfl,_,.agg rfl Tryz.underlying121 aL aM (.nil),?_⟩;exact⟨fl,_,rfl,b8⟩
theorem DQ{H:Heap}{us vs:List Value}{p q:Rat}{N:Nat}(hu:bS H us p)(hv:bS H vs q)(h1:aN p≤N)(h2:aN q≤N)(hN:(N:Int)≤1099511627776):
 Fn Tryz.prog 126 #[.agg us.toArray,.agg vs.toArray] H (tG H (p-q)):=by
 obtain⟨n1,d1,b1,rfl,dY⟩:=id hu
 obtain⟨n2,d2,b2,rfl,de⟩:=id hv
 have mq:=wZ q;refine aZ (args:=[_,_]) Tryz.func126 rfl rfl Tryz.ntmps126 rfl rfl fun w0=> ?_;refine ah [0,1] rfl ?_;refine ae (bY rfl rfl (bY rfl rfl (bh ff rfl (ab [2,3,4] ?_))));refine bM .bJ [0,1,2,3,4] follows (by kernel_rfl) ?_;refine aa 2 rfl (aY rfl rfl (DK hv (by omega)) (fun _ _ h=>by first | exact h.le | exact h.1) ?_);rintro w1 G1 ⟨fl,Gp,rfl,b8⟩;obtain⟨n1,d1,b1,rfl,_⟩:=id b8;refine aY rfl rfl (afD (hu.le fl) b8 h1 (by omega) hN) (fun _ _ h=>by first | exact h.le | exact h.1) ?_;rintro w2 G2 ⟨dP,O5,rfl,bU⟩;rw[←Rat.sub_eq_add_neg]at bU;obtain⟨n2,d2,b2,rfl,_⟩:=id bU;obtain⟨ti,aj,ak⟩:=cH;refine aH (.inl ⟨rfl,rfl⟩) rfl rfl rfl aj ak rfl rfl rfl (ab [4] ?_);obtain⟨bP,aL,aM⟩:=cH;refine aB ⟨.inr rfl,_,.agg rfl Tryz.underlying121 aL aM (.nil),?_⟩;exact⟨fl.trans dP,_,rfl,bU⟩
theorem Wt{H:Heap}{us vs:List Value}{p q:Rat}{N:Nat}(hu:bS H us p)(hv:bS H vs q)(h1:aN p≤N)(h2:aN q≤N)(hN:(N:Int)≤1099511627776)(hq:q≠0):
 Fn Tryz.prog 125 #[.agg us.toArray,.agg vs.toArray] H (tG H (p/q)):=by
 obtain⟨n1,d1,b1,rfl,dY⟩:=id hu
 obtain⟨n2,d2,b2,rfl,de⟩:=id hv;refine aZ (args:=[_,_]) Tryz.func125 rfl rfl Tryz.ntmps125 rfl rfl fun w0=> ?_;refine ah [0,1] rfl ?_;refine ae (bY rfl rfl (bY rfl rfl (bh ff rfl (ab [2,3,4] ?_))));refine ao ?_
 cases pO:xe n1 d1 b1
 ·
  skip
  refine ae (aa 1 rfl (aC rfl rfl (oK) ?_));rintro v1 H1 ⟨e1,rfl⟩;rw[e1,pO];refine aa 4 rfl (ab [2,3,4,12] ?_);refine dh rfl (az (ah [2,3,4] rfl ?_));refine bM .bJ [0,2,1,3,4,5,6,7,8,9,10] follows (by kernel_rfl) ?_;refine aa 2 rfl (aY rfl rfl (rV hu) (fun _ _ h=>by first | exact h.le | exact h.1) ?_);rintro w1 G1 ⟨fl,b8⟩;obtain⟨u1,x1,rfl,eR,fH⟩:=id b8;obtain⟨mj,ml,rfl,mm,mo⟩:=id eR;obtain⟨tJ,tK,rfl,tL,tM⟩:=id fH;refine aY rfl rfl (rV (hv.le fl)) (fun _ _ h=>by first | exact h.le | exact h.1) ?_;rintro w2 G2 ⟨dP,bU⟩;obtain⟨u2,x2,rfl,fQ,eS⟩:=id bU;obtain⟨oC,oD,rfl,oE,oF⟩:=id fQ;obtain⟨oG,oH,rfl,oI,oJ⟩:=id eS;refine aY rfl rfl (VG (N:=N) ((b8.le dP).raw.mono h1) (bU.raw.mono h2) hN) (fun _ _ h=>by first | exact h.le | exact h.1) ?_;rintro w3 G3 ⟨qA,r3,rfl,iw⟩;obtain⟨u3,x3,rfl,oO,gT⟩:=id iw;obtain⟨Bw,By,rfl,Bz,BA⟩:=id oO;obtain⟨BB,BC,rfl,BD,BE⟩:=id gT;refine aa 3 rfl (bh bQ rfl ?_);obtain⟨ti,aj,ak⟩:=aU;refine aH (.inl ⟨rfl,rfl⟩) rfl rfl rfl aj ak rfl rfl rfl (aa 1 rfl (ab [4,5] ?_));refine ae (aa 1 rfl (aC rfl rfl (y8 iw) ?_))
  rintro w4 G4 ⟨kR,Gn,rfl,ct⟩;obtain⟨n4,d4,b4,rfl,_⟩:=id ct;obtain⟨ti,aj,ak⟩:=cH;refine aH (.inl ⟨rfl,rfl⟩) rfl rfl rfl aj ak rfl rfl rfl (ab [4] ?_);obtain⟨bP,aL,aM⟩:=cH;refine aB ⟨.inr rfl,_,.agg rfl Tryz.underlying121 aL aM (.nil),?_⟩;exact⟨((fl.trans dP).trans qA).trans kR,_,rfl,ct⟩
 ·
  skip
  cases pP:xe n2 d2 b2
  ·
   skip
   refine ae (aa 1 rfl (aC rfl rfl (oK) ?_));rintro v1 H1 ⟨e1,rfl⟩;rw[e1,pO];refine aa 2 rfl (aC rfl rfl (oK) ?_);rintro v1 H1 ⟨e1,rfl⟩;rw[e1,pP];refine aa 1 rfl (ab [2,3,4,12] ?_);refine dh rfl (az (ah [2,3,4] rfl ?_));refine bM .bJ [0,2,1,3,4,5,6,7,8,9,10] follows (by kernel_rfl) ?_;refine aa 2 rfl (aY rfl rfl (rV hu) (fun _ _ h=>by first | exact h.le | exact h.1) ?_);rintro w1 G1 ⟨fl,b8⟩;obtain⟨u1,x1,rfl,eR,fH⟩:=id b8;obtain⟨mj,ml,rfl,mm,mo⟩:=id eR;obtain⟨tJ,tK,rfl,tL,tM⟩:=id fH;refine aY rfl rfl (rV (hv.le fl)) (fun _ _ h=>by first | exact h.le | exact h.1) ?_;rintro w2 G2 ⟨dP,bU⟩;obtain⟨u2,x2,rfl,fQ,eS⟩:=id bU;obtain⟨oC,oD,rfl,oE,oF⟩:=id fQ;obtain⟨oG,oH,rfl,oI,oJ⟩:=id eS;refine aY rfl rfl (VG (N:=N) ((b8.le dP).raw.mono h1) (bU.raw.mono h2) hN) (fun _ _ h=>by first | exact h.le | exact h.1) ?_;rintro w3 G3 ⟨qA,r3,rfl,iw⟩;obtain⟨u3,x3,rfl,oO,gT⟩:=id iw;obtain⟨Bw,By,rfl,Bz,BA⟩:=id oO;obtain⟨BB,BC,rfl,BD,BE⟩:=id gT;refine aa 3 rfl (bh bQ rfl ?_);obtain⟨ti,aj,ak⟩:=aU;refine aH (.inl ⟨rfl,rfl⟩) rfl rfl rfl aj ak rfl rfl rfl (vr 1 ?_)
   refine ab [4,5] ?_;refine ae (aa 1 rfl (aC rfl rfl (y8 iw) ?_));rintro w4 G4 ⟨kR,Gn,rfl,ct⟩;obtain⟨n4,d4,b4,rfl,_⟩:=id ct;obtain⟨ti,aj,ak⟩:=cH;refine aH (.inl ⟨rfl,rfl⟩) rfl rfl rfl aj ak rfl rfl rfl (ab [4] ?_);obtain⟨bP,aL,aM⟩:=cH;refine aB ⟨.inr rfl,_,.agg rfl Tryz.underlying121 aL aM (.nil),?_⟩;exact⟨((fl.trans dP).trans qA).trans kR,_,rfl,ct⟩
  obtain⟨rfl,k1,k2,k3⟩:=Bq.1 pO;obtain⟨rfl,k4,k5,k6⟩:=Bq.1 pP;obtain⟨-,rfl,rfl,-⟩:=dY.resolve_right (by rintro⟨ad,f,u,w,h,_⟩;cases h);obtain⟨-,rfl,rfl,-⟩:=de.resolve_right (by rintro⟨ad,f,u,w,h,_⟩;cases h);have fg:=den_pos p;have dK:=den_pos q;have hqn:q.num≠0:=fun e=>hq (Rat.num_eq_zero.1 e);have m1:=Bo (a:=p.num) (b:=q.den) k1 k2 (by omega) k6;have m3:=Bo (a:=p.den) (b:=q.num) (by omega) k3 k4 k5;refine ae (aa 1 rfl (aC rfl rfl (oK) ?_));rintro v1 H1 ⟨e1,rfl⟩;rw[e1,pO];refine aa 2 rfl (aC rfl rfl (oK) ?_);rintro v1 H1 ⟨e1,rfl⟩;rw[e1,pP];refine aa 1 rfl (ab [2,3,4,12] ?_);refine cK rfl (ao (ae (aa 3 rfl (ab [2,3,4,15] ?_))));refine aD rfl (fun hb=> ?_) (fun hb=> ?_)
  ·
   have hb:q.num<0:=by simpa using hb
   have m4:0 < -(p.den:Int)*q.num:=by rw[Int.neg_mul,←Int.mul_neg];exact Int.mul_pos (by omega) (by omega)
   have e1: -p.num*(q.den:Int) = -(p.num*(q.den:Int)):=Int.neg_mul _ _;have e2: -(p.den:Int)*q.num = -((p.den:Int)*q.num):=Int.neg_mul _ _;refine ae (aa 2 rfl (rH rfl ⟨by omega,by omega⟩ (aa 2 rfl (gO rfl rfl ⟨by omega,by omega⟩ (aa 2 rfl (rH rfl ⟨by omega,by omega⟩ (aa 2 rfl (gO rfl rfl ⟨by omega,by omega⟩ (aC rfl rfl (KR (by omega) (by omega) m4 (by omega)) ?_)))))))));rintro w1 G1 ⟨fl,Gp,rfl,b8⟩;rw[afC p hq]at b8;obtain⟨n1,d1,b1,rfl,_⟩:=id b8;obtain⟨ti,aj,ak⟩:=cH;refine aH (.inl ⟨rfl,rfl⟩) rfl rfl rfl aj ak rfl rfl rfl (ab [4] ?_);obtain⟨bP,aL,aM⟩:=cH;refine aB ⟨.inr rfl,_,.agg rfl Tryz.underlying121 aL aM (.nil),?_⟩;exact⟨fl,_,rfl,b8⟩
  have hb:0<q.num:=by have:=of_decide_eq_false hb;omega
  have m4:0<(p.den:Int)*q.num:=Int.mul_pos (by omega) hb;refine az (ah [2,3,4] rfl ?_);refine ae (aa 4 rfl (gO rfl rfl ⟨by omega,by omega⟩ (aa 4 rfl (gO rfl rfl ⟨by omega,by omega⟩ (aC rfl rfl (KR (by omega) (by omega) m4 (by omega)) ?_)))));rintro w1 G1 ⟨fl,Gp,rfl,b8⟩;rw[Ws p hq]at b8;obtain⟨n1,d1,b1,rfl,_⟩:=id b8;obtain⟨ti,aj,ak⟩:=cH;refine aH (.inl ⟨rfl,rfl⟩) rfl rfl rfl aj ak rfl rfl rfl (ab [4] ?_);obtain⟨bP,aL,aM⟩:=cH;refine aB ⟨.inr rfl,_,.agg rfl Tryz.underlying121 aL aM (.nil),?_⟩;exact⟨fl,_,rfl,b8⟩
end Go.aq
