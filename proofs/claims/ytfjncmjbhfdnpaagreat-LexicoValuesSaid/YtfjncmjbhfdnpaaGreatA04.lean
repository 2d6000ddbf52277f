/- Part 4 of the proof: Num1, Lp, Sx, Sy, Prg, Num2. -/
import Derived.Test.YtfjncmjbhfdnpaaGreatA03
set_option linter.unusedVariables false
namespace Go.aw
open Go.Proofs Num
theorem qN:Tryz.prog.underlying 88=some (.pointer (Tryz.prog.pointee 88)):=by
 unfold Program.pointee;rw[Tryz.underlying88]
theorem tD{H:Heap}{g:Nat}{xs:List Value}{e i:Nat}{v:Value}(h:xs[i]? = some v):cell (ins H g (whole xs e)) ((⟨g,0,none⟩:Addr).add i)=some v:=by
 simp[cell,iX,ins,whole,h]
theorem Lc{H:Heap}{g:Nat}{x:Value}{xs:List Value}{e:Nat}:cell (ins H g (whole (x::xs) e)) ⟨g,0,none⟩=some x:=by
 simp[cell,ins,whole]
theorem Ld{H:Heap}{ad:Addr}{a b c:Value}(h0:cell H ad=some a)(h1:cell H (ad.add 1)=some b)(h2:cell H (ad.add 2)=some c):∀(i:Nat)(v:Value),[a,b,c][i]? = some v→cell H (ad.add i)=some v:=by
 intro i v hv
 match i with
 | 0=>simp only[List.getElem?_cons_zero,Option.some.injEq]at hv;subst hv;simpa [Addr.add]using h0
 | 1=>simp only[List.getElem?_cons_succ,List.getElem?_cons_zero,Option.some.injEq]at hv;subst hv;exact h1
 | 2=>simp only[List.getElem?_cons_succ,List.getElem?_cons_zero,Option.some.injEq]at hv;subst hv;exact h2
 | n+3=>simp at hv
theorem Bm{a b:Int}(h1: -2147483647≤a)(h2:a≤2147483647)(h3: -2147483647≤b)(h4:b≤2147483647): -4611686014132420609≤a*b∧a*b≤4611686014132420609:=by
 have h5:(a*b).natAbs≤2147483647*2147483647:=by rw[Int.natAbs_mul];exact Nat.mul_le_mul (by omega) (by omega)
 omega
theorem tE(p:Rat):(p.num:Rat)/((p.den:Int):Rat)=p:=by
 have:=Rat.mkRat_self p
 rwa [Rat.mkRat_eq_div]at this
theorem DR(p:Rat):((p.den:Int):Rat)≠0:=fun e=>p.den_nz (by exact_mod_cast e)
theorem den_pos(p:Rat):0<p.den:=Nat.pos_of_ne_zero p.den_nz
theorem lowest{n d:Int}(hd:0<d):(((n:Rat)/(d:Rat)).num=n.tdiv (Nat.gcd n.natAbs d.natAbs:Nat))∧((n:Rat)/(d:Rat)).den=d.natAbs/Nat.gcd n.natAbs d.natAbs:=by
 have h0:decide (d<0)=false:=decide_eq_false (by omega)
 have m8:0<d.natAbs:=by omega
 have e:=V4 n d
 rw[h0]at e
 rw[←e,yU m8,Pd m8]
 refine⟨?_,rfl⟩
 have hg:(Nat.gcd n.natAbs d.natAbs)∣n.natAbs:=Nat.gcd_dvd_left _ _
 by_cases hn:n<0
 ·rw[show (decide (n<0) != false)=true by simp[hn]]
  have e2:n = -(n.natAbs:Int):=by omega
  conv=>rhs;rw[e2,Int.neg_tdiv]
  simp[sg,Int.tdiv_eq_ediv_of_nonneg]
 ·rw[show (decide (n<0) != false)=false by simp[hn]]
  have e2:n=(n.natAbs:Int):=by omega
  conv=>rhs;rw[e2]
  simp[sg,Int.tdiv_eq_ediv_of_nonneg]
theorem afb{n:Int}{g:Nat}(h1: -9223372036854775807≤n)(h2:n≤9223372036854775807): -9223372036854775807≤n.tdiv g∧n.tdiv g≤9223372036854775807:=by
 have:(n.tdiv g).natAbs≤n.natAbs:=by
  rw[Int.natAbs_tdiv];exact Nat.div_le_self _ _
 omega
abbrev N3(n d:Int)(b:Option Addr):Value:= .agg #[.int .i64 n,.int .i64 d,.pointer b]
theorem wR(H:Heap){n:Int}(h1: -9223372036854775807≤n)(h2:n≤9223372036854775807):bS H [.int .i64 n,.int .i64 1,.pointer none] (n:Rat):=
 ⟨_,_,_,rfl,.inl ⟨rfl,by simp,by simp,h1,h2,by decide⟩⟩
theorem wS{H:Heap}{n:Int}:
 Fn Tryz.prog 123 #[.int .i64 n] H (vj H (N3 n 1 none)):=by
 refine aZ (args:=[_]) Tryz.func123 rfl rfl Tryz.ntmps123 rfl rfl fun w0=> ?_;refine aj [0] rfl ?_;refine ag (bn fk rfl (ae [0,2] ?_));refine ag (ab 1 rfl (de ah rfl fk rfl rfl ?_));obtain⟨ti,ak,al⟩:=cJ;refine aI (.inl ⟨rfl,rfl⟩) rfl rfl rfl ak al rfl rfl rfl (ae [2] ?_);obtain⟨bQ,aN,aO⟩:=cJ;refine aE ⟨.inr rfl,_,.agg rfl Tryz.underlying90 aN aO (.nil),?_⟩;exact⟨rfl,rfl⟩
theorem Wp{H:Heap}{u:Value}{l:List Nat}(hu:jB H u l)(hl:Lt l)(h2:l.length≤2):
 Fn Tryz.prog 188 #[u] H (vj H (.int .i64 (val l:Nat))):=by
 obtain⟨A,c,rfl,hc,hr⟩:=hu;refine aZ (args:=[_]) Tryz.func188 rfl rfl Tryz.ntmps188 rfl rfl fun w0=> ?_;refine aj [0] rfl ?_;refine ag (ab 1 rfl (ae [0] ?_));refine ag (ab 1 rfl (ae [0,3] ?_));refine aq (ag (ab 2 rfl (cY rfl rfl ⟨by omega,by omega⟩ (ab 1 rfl (ae [0,3,4] ?_)))));refine aG (gK (fun(k:Nat)=>k) (fun(k:Nat)=>put (put (put (emp) 0 (.val (.slice A l.length c))) 3 (.val (.int .i64 (val (l.drop k):Nat)))) 4 (.val (.int .i64 ((k:Int)-1)))) (fun(k:Nat) H'=>H'=H∧k≤l.length) l.length (⟨rfl,Nat.le_refl _⟩) (by simp only[List.drop_length];repeat (first | exact iV _ | refine dB rfl ?_ | refine dB (jk (by first | omega | (simp[val];done))) ?_)) ?_);rintro k H1 ⟨rfl,hk⟩;refine aq (ag (ab 2 rfl (ae [0,3,4,9] ?_)));refine aD rfl (fun hb=> ?_) (fun hb=> ?_)
 ·
  have hb:0<k:=by simp at hb;omega
  obtain⟨x,hx⟩:∃x,l[k-1]? = some x:=⟨_,List.getElem?_eq_getElem (by omega)⟩;have hxB:=hl.get hx
  have lj:val (l.drop (k-1))=x+B*val (l.drop k):=by
   obtain⟨iT,e⟩:=List.getElem?_eq_some_iff.1 hx;rw[List.drop_eq_getElem_cons iT,e,jA,show k-1+1=k by omega]
  have hvb:=uY (hl.drop k);have afc:B^(l.drop k).length≤B^1:=Nat.pow_le_pow_right nt (by rw[List.length_drop];omega)
  have amq:val (l.drop k)<1000000000:=by
   have:=Nat.lt_of_lt_of_le hvb afc
   rwa [Nat.pow_one,cn]at this
  rw[cn]at hxB lj;refine aA (aj [0,3,4] rfl ?_);refine aq (aG (aC rfl (ab 1 rfl (gW rfl rfl ⟨by omega,by omega⟩ (ab 2 rfl (aS ah rfl rfl rfl rfl rfl (hr) (by rw[show ((k:Int)-1).toNat=k-1 by omega];exact du hx) (by omega) (by omega) fun _=> ?_))))));refine dg ah rfl rfl rfl ⟨by omega,by omega⟩ (aH rfl rfl ⟨by omega,by omega⟩ (ab 1 rfl (az (aj [0,3,4] rfl ?_))));refine aC rfl (ab 1 rfl (cY rfl rfl ⟨by omega,by omega⟩ (ab 1 rfl (az ?_))));exact⟨k-1,by omega,(by rw[lj];repeat (first | exact iV _ | refine dB rfl ?_ | refine dB (jk (by omega)) ?_)),rfl,by omega⟩
 ·
  have hb:k=0:=by simp at hb;omega
  subst hb;refine aW (aj [3] rfl ?_);refine ag (ab 2 rfl (ae [2] ?_));refine aE ⟨.inr rfl,_,.tmp rfl (.nil),?_⟩;exact⟨rfl,rfl⟩
theorem y6{H:Heap}{v:Value}{q:Rat}(hv:bK H v q):
 Fn Tryz.prog 130 #[v] H (tB H q):=by
 obtain⟨u,w,rfl,hu,hw⟩:=id hv
 have Le:=hv
 unfold bK at Le
 obtain⟨f,hf⟩:∃f,f=decide (q.num<0):=⟨_,rfl⟩
 rw[←hf]at hv
 rw[←hf]
 obtain⟨A,c,rfl,hc,hr⟩:=id hu
 obtain⟨A',c',rfl,jO,dU⟩:=id hw;refine aZ (args:=[_]) Tryz.func130 rfl rfl Tryz.ntmps130 rfl rfl fun w0=> ?_;refine aj [0] rfl ?_;refine ag (OE rfl rfl ?_);intro g hg;have hle:=Heap.bC (whole [.bool f,.slice A (ao q.num.natAbs).length c,.slice A' (ao q.den).length c'] 31) hg;refine bn fk rfl (ae [1,2] ?_);refine aq ?_
 by_cases h2:2<(ao q.num.natAbs).length
 ·
  skip
  refine ag (aV ah rfl rfl rfl (aT ah rfl rfl rfl (tD rfl) (ab 1 rfl (aJ true rfl rfl (mI (by omega)) (ab 6 rfl (ae [1,2,13] ?_))))));refine dJ rfl (ag (de ah rfl fk rfl rfl ?_));obtain⟨ti,ak,al⟩:=cJ;refine aI (.inl ⟨rfl,rfl⟩) rfl rfl rfl ak al rfl rfl rfl (ae [2] ?_);obtain⟨bQ,aN,aO⟩:=cJ;refine aE ⟨.inr rfl,_,.agg rfl Tryz.underlying90 aN aO (.nil),?_⟩;exact⟨hle,_,rfl,0,0,some ⟨g,0,none⟩,rfl,.inr ⟨_,f,_,_,rfl,hv.le hle,Lc,tD rfl,tD rfl⟩⟩
 ·
  skip
  by_cases h3:2<(ao q.den).length
  ·
   skip
   refine ag (aV ah rfl rfl rfl (aT ah rfl rfl rfl (tD rfl) (ab 1 rfl (aJ false rfl rfl (iW (by omega)) (ab 1 rfl (aV ah rfl rfl rfl (aT ah rfl rfl rfl (tD rfl) (ab 1 rfl (aJ true rfl rfl (mI (by omega)) (ab 1 rfl (ae [1,2,13] ?_)))))))))));refine dJ rfl (ag (de ah rfl fk rfl rfl ?_));obtain⟨ti,ak,al⟩:=cJ;refine aI (.inl ⟨rfl,rfl⟩) rfl rfl rfl ak al rfl rfl rfl (ae [2] ?_);obtain⟨bQ,aN,aO⟩:=cJ;refine aE ⟨.inr rfl,_,.agg rfl Tryz.underlying90 aN aO (.nil),?_⟩;exact⟨hle,_,rfl,0,0,some ⟨g,0,none⟩,rfl,.inr ⟨_,f,_,_,rfl,hv.le hle,Lc,tD rfl,tD rfl⟩⟩
  skip
  refine ag (aV ah rfl rfl rfl (aT ah rfl rfl rfl (tD rfl) (ab 1 rfl (aJ false rfl rfl (iW (by omega)) (ab 1 rfl (aV ah rfl rfl rfl (aT ah rfl rfl rfl (tD rfl) (ab 1 rfl (aJ false rfl rfl (iW (by omega)) (ab 1 rfl (ae [1,2,13] ?_)))))))))));refine dR rfl (aA (aj [1,2] rfl ?_));have GD:=jn.1 (show (ao q.num.natAbs).length≤2 by omega);have td:=jn.1 (show (ao q.den).length≤2 by omega);rw[cn]at GD td;refine bP .bJ [0,1,3,4,2,5,6,7,8] follows (by kernel_rfl) ?_;refine aV ah rfl rfl rfl (aT ah rfl rfl rfl (tD rfl) (aV ah rfl rfl rfl (aT ah rfl rfl rfl (tD rfl) (a8 rfl rfl (Wp (hu.le hle) (fQ _).lt (by omega)) (fun _ _ h=>h.le) ?_))));rintro v1 H1 ⟨e1,rfl⟩;rw[e1,cS];refine a8 rfl rfl (Wp (hw.le hle) (fQ _).lt (by omega)) (fun _ _ h=>h.le) ?_;rintro v1 H1 ⟨e1,rfl⟩;rw[e1,cS];refine de ah rfl fk rfl rfl (bn fk rfl ?_);obtain⟨ti,ak,al⟩:=cJ;refine aI (.inl ⟨rfl,rfl⟩) rfl rfl rfl ak al rfl rfl rfl (ae [1,2,3] ?_);refine aq (ag (aV ah rfl rfl rfl ?_))
  refine aT ah rfl rfl rfl (Lc) (ae [2,3,23] ?_);refine aD rfl (fun hb=> ?_) (fun hb=> ?_)
  ·
   have hq:q.num<0:=by rw[hf]at hb;simpa using hb
   refine aC rfl (ab 2 rfl (tl rfl ⟨by omega,by omega⟩ (vr 1 ?_)));obtain⟨ti,ak,al⟩:=oV;refine aI (.inr rfl) rfl rfl rfl ak al rfl rfl rfl (az (aj [2,3] rfl ?_));refine ag (vr 1 ?_);obtain⟨ti,ak,al⟩:=cJ;refine aI (.inl ⟨rfl,rfl⟩) rfl rfl rfl ak al rfl rfl rfl (ae [2] ?_);obtain⟨bQ,aN,aO⟩:=cJ;refine aE ⟨.inr rfl,_,.agg rfl Tryz.underlying90 aN aO (.nil),?_⟩;refine⟨hle,_,rfl,-(q.num.natAbs:Int),(q.den:Int),none,rfl,.inl ⟨rfl,by omega,rfl,by omega,by omega,by omega⟩⟩
  have hq:¬q.num<0:=by rw[hf]at hb;simpa using hb
  refine aA (aj [2,3] rfl ?_);refine ag (vr 1 ?_);obtain⟨ti,ak,al⟩:=cJ;refine aI (.inl ⟨rfl,rfl⟩) rfl rfl rfl ak al rfl rfl rfl (ae [2] ?_);obtain⟨bQ,aN,aO⟩:=cJ;refine aE ⟨.inr rfl,_,.agg rfl Tryz.underlying90 aN aO (.nil),?_⟩;refine⟨hle,_,rfl,(q.num.natAbs:Int),(q.den:Int),none,rfl,.inl ⟨rfl,by omega,rfl,by omega,by omega,by omega⟩⟩
theorem PB{H:Heap}{v:Value}{q:Rat}{N:Nat}(hv:ct H v q N)(hN:(N:Int)≤1099511627776):
 Fn Tryz.prog 121 #[v] H (tB H q):=by
 obtain⟨bf,bu,bw,od,oe,rfl,_⟩:=id hv;refine aZ (args:=[_]) Tryz.func121 rfl rfl Tryz.ntmps121 rfl rfl fun w0=> ?_;refine aj [0] rfl ?_;refine ag (bW rfl rfl (bn fk rfl (ae [1,2] ?_)));refine ag (ab 1 rfl (aF rfl rfl (DG hv hN) ?_));rintro w1 G1 ⟨fw,cC⟩;obtain⟨u1,x1,rfl,eO,eP⟩:=id cC;obtain⟨mK,mL,rfl,mM,mN⟩:=id eO;obtain⟨tF,tG,rfl,tH,tI⟩:=id eP;refine aF rfl rfl (y6 cC) ?_;rintro w2 G2 ⟨dT,PC,rfl,bO⟩;obtain⟨n2,d2,b2,rfl,_⟩:=id bO;obtain⟨ti,ak,al⟩:=cJ;refine aI (.inl ⟨rfl,rfl⟩) rfl rfl rfl ak al rfl rfl rfl (ae [2] ?_);obtain⟨bQ,aN,aO⟩:=cJ;refine aE ⟨.inr rfl,_,.agg rfl Tryz.underlying90 aN aO (.nil),?_⟩;exact⟨fw.trans dT,_,rfl,bO⟩
theorem rZ{H:Heap}{vs:List Value}{q:Rat}(hv:bS H vs q):
 Fn Tryz.prog 187 #[.agg vs.toArray] H (kt H q):=by
 obtain⟨n,d,b,rfl,iS⟩:=id hv
 have cQ:=fun ad f u w (h:bK H (.agg #[.bool f,u,w]) q)(_:b=some ad)=>h.raw;refine aZ (args:=[_]) Tryz.func187 rfl rfl Tryz.ntmps187 rfl rfl fun w0=> ?_;refine aj [0] rfl ?_;refine ag (bW rfl rfl (bn bZ rfl (ae [1,2] ?_)));refine aq ?_
 rcases iS with ⟨rfl,hn,hd,h1,h2,h3⟩ | ⟨ad,f,u,w,rfl,tJ,mO,iF,nz⟩
 ·
  skip
  refine ag (ab 2 rfl (yF qN rfl rfl (ae [1,2,5] ?_)));refine dR rfl (aA (aj [1,2] rfl ?_));refine ag (ab 4 rfl (aF rfl rfl (Wf (by omega) (by omega) (by omega) (by omega)) ?_));rintro w1 G1 ⟨fw,cC⟩;obtain⟨u1,x1,rfl,eO,eP⟩:=id cC;obtain⟨mK,mL,rfl,mM,mN⟩:=id eO;obtain⟨tF,tG,rfl,tH,tI⟩:=id eP;rw[hn,hd,tE]at cC;obtain⟨ti,ak,al⟩:=a6;refine aI (.inl ⟨rfl,rfl⟩) rfl rfl rfl ak al rfl rfl rfl (ae [2] ?_);obtain⟨bQ,aN,aO⟩:=a6;refine aE ⟨.inr rfl,_,.agg rfl Tryz.underlying31 aN aO (.nil),?_⟩
  skip
  rw[hn,hd,tE];exact⟨fw,cC⟩
 ·
  obtain⟨u1,w1,Bn,eO,gA⟩:=id tJ
  obtain⟨rfl,rfl,rfl⟩:f=decide (q.num<0)∧u=u1∧w=w1:=by simpa using Bn
  obtain⟨mK,mL,rfl,mM,mN⟩:=id eO;obtain⟨DC,DD,rfl,DE,DF⟩:=id gA;refine ag (ab 2 rfl (yF qN rfl rfl (ae [1,2,5] ?_)));refine dJ rfl (ag (ab 3 rfl (yG (vs:=[.bool _,_,_]) ah rfl rfl rfl (Ld mO iF nz) ?_)));obtain⟨ti,ak,al⟩:=a6;refine aI (.inl ⟨rfl,rfl⟩) rfl rfl rfl ak al rfl rfl rfl (ae [2] ?_);obtain⟨bQ,aN,aO⟩:=a6;refine aE ⟨.inr rfl,_,.agg rfl Tryz.underlying31 aN aO (.nil),?_⟩;exact⟨.refl _,tJ⟩
theorem Wq{H:Heap}{vs:List Value}{q:Rat}(hv:bS H vs q)(hN:(aP q:Int)≤1099511627776):
 Fn Tryz.prog 61 #[.agg vs.toArray] H (kt H q):=by
 obtain⟨n,d,b,rfl,iS⟩:=id hv
 have cQ:=fun ad f u w (h:bK H (.agg #[.bool f,u,w]) q)(_:b=some ad)=>h.raw;refine aZ (args:=[_]) Tryz.func61 rfl rfl Tryz.ntmps61 rfl rfl fun w0=> ?_;refine aj [0] rfl ?_;refine ag (bW rfl rfl (bn bZ rfl (ae [1,2] ?_)));refine aq ?_
 rcases iS with ⟨rfl,hn,hd,h1,h2,h3⟩ | ⟨ad,f,u,w,rfl,tJ,mO,iF,nz⟩
 ·
  skip
  refine ag (ab 2 rfl (yF qN rfl rfl (ae [1,2,5] ?_)));refine dR rfl (aA (aj [1,2] rfl ?_));refine ag (ab 4 rfl (aF rfl rfl (Wf (by omega) (by omega) (by omega) (by omega)) ?_));rintro w1 G1 ⟨fw,cC⟩;obtain⟨u1,x1,rfl,eO,eP⟩:=id cC;obtain⟨mK,mL,rfl,mM,mN⟩:=id eO;obtain⟨tF,tG,rfl,tH,tI⟩:=id eP;rw[hn,hd,tE]at cC;obtain⟨ti,ak,al⟩:=a6;refine aI (.inl ⟨rfl,rfl⟩) rfl rfl rfl ak al rfl rfl rfl (ae [2] ?_);obtain⟨bQ,aN,aO⟩:=a6;refine aE ⟨.inr rfl,_,.agg rfl Tryz.underlying31 aN aO (.nil),?_⟩
  skip
  rw[hn,hd,tE];exact⟨fw,cC⟩
 ·
  obtain⟨u1,w1,Bn,eO,gA⟩:=id tJ
  obtain⟨rfl,rfl,rfl⟩:f=decide (q.num<0)∧u=u1∧w=w1:=by simpa using Bn
  obtain⟨mK,mL,rfl,mM,mN⟩:=id eO;obtain⟨DC,DD,rfl,DE,DF⟩:=id gA;refine ag (ab 2 rfl (yF qN rfl rfl (ae [1,2,5] ?_)));refine dJ rfl (ag (ab 3 rfl (yG (vs:=[.bool _,_,_]) ah rfl rfl rfl (Ld mO iF nz) (aF rfl rfl (DG tJ.raw hN) ?_))));rintro w1 G1 ⟨fw,cC⟩;obtain⟨u1,x1,rfl,eO,eP⟩:=id cC;obtain⟨mK,mL,rfl,mM,mN⟩:=id eO;obtain⟨tF,tG,rfl,tH,tI⟩:=id eP;obtain⟨ti,ak,al⟩:=a6;refine aI (.inl ⟨rfl,rfl⟩) rfl rfl rfl ak al rfl rfl rfl (ae [2] ?_);obtain⟨bQ,aN,aO⟩:=a6;refine aE ⟨.inr rfl,_,.agg rfl Tryz.underlying31 aN aO (.nil),?_⟩;exact⟨fw,cC⟩
theorem afd{H:Heap}{n d:Int}{b:Option Addr}:
 Fn Tryz.prog 184 #[N3 n d b] H (fun v H'=>H'=H∧∃t,v = .bool t∧(t=true↔b=none∧-2147483647≤n∧n≤2147483647∧d≤2147483647)):=by
 refine aZ (args:=[_]) Tryz.func184 rfl rfl Tryz.ntmps184 rfl rfl fun w0=> ?_;refine aj [0] rfl ?_;refine ag (bW rfl rfl (ab 1 rfl (ae [1] ?_)))
 rcases b with _ | ad
 rotate_left
 ·
  skip
  refine ag (ab 2 rfl (FR qN rfl rfl (ab 16 rfl (ae [2] ?_))));refine aE ⟨.inr rfl,_,.tmp rfl (.nil),?_⟩;exact⟨rfl,_,rfl,by constructor <;> intro h <;> first | (cases h;done) | exact⟨rfl,h1,h2,h3⟩ | (obtain⟨h4,h5,h6,h7⟩:=h;first | (cases h4;done) | omega) | rfl⟩
 ·
  skip
  by_cases h1: -2147483647≤n
  ·
   skip
   by_cases h2:n≤2147483647
   ·
    skip
    by_cases h3:d≤2147483647
    ·
     skip
     refine ag (ab 2 rfl (FR qN rfl rfl (ab 3 rfl (aJ true rfl rfl (p7 h1) (ab 4 rfl (aJ true rfl rfl (p7 h2) (ab 4 rfl (aJ true rfl rfl (p7 h3) (ab 2 rfl (ae [2] ?_))))))))));refine aE ⟨.inr rfl,_,.tmp rfl (.nil),?_⟩;exact⟨rfl,_,rfl,by constructor <;> intro h <;> first | (cases h;done) | exact⟨rfl,h1,h2,h3⟩ | (obtain⟨h4,h5,h6,h7⟩:=h;first | (cases h4;done) | omega) | rfl⟩
    skip
    refine ag (ab 2 rfl (FR qN rfl rfl (ab 3 rfl (aJ true rfl rfl (p7 h1) (ab 4 rfl (aJ true rfl rfl (p7 h2) (ab 4 rfl (aJ false rfl rfl (yN (by omega)) (ab 2 rfl (ae [2] ?_))))))))));refine aE ⟨.inr rfl,_,.tmp rfl (.nil),?_⟩;exact⟨rfl,_,rfl,by constructor <;> intro h <;> first | (cases h;done) | exact⟨rfl,h1,h2,h3⟩ | (obtain⟨h4,h5,h6,h7⟩:=h;first | (cases h4;done) | omega) | rfl⟩
   skip
   refine ag (ab 2 rfl (FR qN rfl rfl (ab 3 rfl (aJ true rfl rfl (p7 h1) (ab 4 rfl (aJ false rfl rfl (yN (by omega)) (ab 7 rfl (ae [2] ?_))))))));refine aE ⟨.inr rfl,_,.tmp rfl (.nil),?_⟩;exact⟨rfl,_,rfl,by constructor <;> intro h <;> first | (cases h;done) | exact⟨rfl,h1,h2,h3⟩ | (obtain⟨h4,h5,h6,h7⟩:=h;first | (cases h4;done) | omega) | rfl⟩
  skip
  refine ag (ab 2 rfl (FR qN rfl rfl (ab 3 rfl (aJ false rfl rfl (yN (by omega)) (ab 12 rfl (ae [2] ?_))))));refine aE ⟨.inr rfl,_,.tmp rfl (.nil),?_⟩;exact⟨rfl,_,rfl,by constructor <;> intro h <;> first | (cases h;done) | exact⟨rfl,h1,h2,h3⟩ | (obtain⟨h4,h5,h6,h7⟩:=h;first | (cases h4;done) | omega) | rfl⟩
def wT(n d:Int)(b:Option Addr):Bool:=b.isNone&&(decide (-2147483647≤n)&&(decide (n≤2147483647)&&decide (d≤2147483647)))
theorem Bp{n d:Int}{b:Option Addr}:wT n d b=true↔b=none∧-2147483647≤n∧n≤2147483647∧d≤2147483647:=by
 simp[wT]
theorem py{H:Heap}{n d:Int}{b:Option Addr}:Fn Tryz.prog 184 #[N3 n d b] H (vj H (.bool (wT n d b))):=
 afd.mono fun v H' ⟨h1,t,h2,h3⟩=>⟨h1,by rw[h2];congr 1;rw[Bool.eq_iff_iff,h3,Bp]⟩
theorem Lf{H:Heap}{n d:Int}(h1: -9223372036854775807≤n)(h2:n≤9223372036854775807)(h3:0<d)(h4:d≤9223372036854775807):
 Fn Tryz.prog 185 #[.int .i64 n,.int .i64 d] H (tB H ((n:Rat)/(d:Rat))):=by
 have vi:=lowest (n:=n) h3;refine aZ (args:=[_,_]) Tryz.func185 rfl rfl Tryz.ntmps185 rfl rfl fun w0=> ?_;refine aj [0,1] rfl ?_;refine ag (bn fk rfl (ae [0,1,4] ?_));refine ag (ab 2 rfl (tl rfl ⟨by omega,by omega⟩ (ac9 rfl rfl ?_)));rw[show (if -n>n then -n else n)=((n.natAbs:Nat):Int) by split <;> omega];refine ab 3 rfl (ae [0,1,4,5,6] ?_);refine aq (aG (ij (fun(a:Nat)(b:Nat)=>b) (fun(a:Nat)(b:Nat)=>put (put (put (put (put (emp) 0 (.val (.int .i64 n))) 1 (.val (.int .i64 d))) 4 (.box [.int .i64 0,.int .i64 0,.pointer none])) 5 (.val (.int .i64 (a:Int)))) 6 (.val (.int .i64 (b:Int)))) (fun(a:Nat)(b:Nat) H'=>H'=H∧Nat.gcd a b=Nat.gcd n.natAbs d.natAbs∧a≤9223372036854775807∧b≤9223372036854775807) n.natAbs d.natAbs (⟨rfl,rfl,by omega,by omega⟩) au ?_));rintro a b H1 ⟨rfl,hg,ha,lH⟩;refine aq (ag (ab 2 rfl (ae [0,1,4,5,6,13] ?_)));refine aD rfl (fun hb=> ?_) (fun hb=> ?_)
 ·
  have hb:0<b:=by simp at hb;omega
  refine aA (aj [0,1,4,5,6] rfl ?_);refine aG (ep .bJ [0,1,2,3,4,5] follows (by kernel_rfl) ?_);refine ab 3 rfl (nh rfl rfl (by omega) (by omega) (ab 2 rfl (az ?_)));exact⟨b,a%b,Nat.mod_lt a hb,au,rfl,by rw[←hg,Nat.gcd_comm b,←Nat.gcd_rec,Nat.gcd_comm],lH,by have:=Nat.mod_lt a hb;omega⟩
 ·
  have hb:b=0:=by simp at hb;omega
  subst hb;rw[Nat.gcd_zero_right]at hg
  have ha0:0<a:=by rw[hg];exact Nat.gcd_pos_of_pos_right _ (by omega)
  have jg:=afb (g:=a) h1 h2;have j0:(d/(a:Int))≤d∧0≤d/(a:Int):=⟨Int.ediv_le_self _ (by omega),Int.ediv_nonneg (by omega) (by omega)⟩;refine aW (aj [0,1,4,5] rfl ?_);refine bP .bJ [0,1,2,3,4,5,6,7] follows (by kernel_rfl) ?_;refine ab 2 rfl (Vp rfl rfl (by omega) ⟨by omega,by omega⟩ (ab 2 rfl (l0 rfl rfl (by omega) (by omega) ⟨by omega,by omega⟩ (de ah rfl fk rfl rfl ?_))));obtain⟨ti,ak,al⟩:=cJ;refine aI (.inl ⟨rfl,rfl⟩) rfl rfl rfl ak al rfl rfl rfl (ae [4] ?_);obtain⟨bQ,aN,aO⟩:=cJ;refine aE ⟨.inr rfl,_,.agg rfl Tryz.underlying90 aN aO (.nil),?_⟩;rw[←hg]at vi;refine⟨.refl _,_,rfl,n.tdiv a,d/(a:Int),none,rfl,.inl ⟨rfl,vi.1.symm,?_,jg.1,jg.2,by omega⟩⟩;rw[vi.2]
  have e:d=(d.natAbs:Int):=by omega
  rw[e,Int.natAbs_natCast];rfl
theorem tK{H:Heap}{vs:List Value}{q:Rat}(hv:bS H vs q)(hN:(aP q:Int)≤1099511627776):
 Fn Tryz.prog 53 #[.agg vs.toArray] H (fun v H'=>Heap.le H H'∧v = .int .i64 (ik q)):=by
 obtain⟨n,d,b,rfl,iS⟩:=id hv
 have cQ:=fun ad f u w (h:bK H (.agg #[.bool f,u,w]) q)(_:b=some ad)=>h.raw
 have hs:=Wm q;refine aZ (args:=[_]) Tryz.func53 rfl rfl Tryz.ntmps53 rfl rfl fun w0=> ?_;refine aj [0] rfl ?_;refine ag (bW rfl rfl (ab 1 rfl (ae [1] ?_)));refine aq (aG ?_)
 rcases iS with ⟨rfl,hn,hd,h1,h2,h3⟩ | ⟨ad,f,u,w,rfl,tJ,mO,iF,nz⟩
 ·
  skip
  refine ag (ab 2 rfl (yF qN rfl rfl (ab 1 rfl (ae [1,3] ?_))));refine dR rfl (ag (ab 4 rfl (ae [1,12] ?_)));refine aD rfl (fun hb=> ?_) (fun hb=> ?_)
  ·
   have hb:n<0:=by simpa using hb
   rw[if_neg (by omega),decide_eq_true (by omega)]at hs;refine ag (ab 1 rfl (ae [2] ?_));refine aE ⟨.inr rfl,_,.tmp rfl (.nil),?_⟩;exact⟨.refl _,by rw[hs];rfl⟩
  ·
   have hb:0≤n:=by simpa using hb
   refine ag (ab 4 rfl (ae [16] ?_));refine aD rfl (fun hb=> ?_) (fun hb=> ?_)
   ·
    have hb:0<n:=by simpa using hb
    rw[if_neg (by omega),decide_eq_false (by omega)]at hs;refine ag (ab 1 rfl (ae [2] ?_));refine aE ⟨.inr rfl,_,.tmp rfl (.nil),?_⟩;exact⟨.refl _,by rw[hs];rfl⟩
   have bU:n≤0:=by simpa using hb
   rw[if_pos (by omega)]at hs;refine aA (aj [] rfl ?_);refine ag (ab 1 rfl (ae [2] ?_));refine aE ⟨.inr rfl,_,.tmp rfl (.nil),?_⟩;exact⟨.refl _,by rw[hs];rfl⟩
 ·
  obtain⟨u1,w1,Bn,eO,gA⟩:=id tJ
  obtain⟨rfl,rfl,rfl⟩:f=decide (q.num<0)∧u=u1∧w=w1:=by simpa using Bn
  obtain⟨mK,mL,rfl,mM,mN⟩:=id eO;obtain⟨DC,DD,rfl,DE,DF⟩:=id gA;refine ag (ab 2 rfl (yF qN rfl rfl (ab 1 rfl (ae [1,3] ?_))));refine dJ rfl (ag (ab 3 rfl (yG (vs:=[.bool _,_,_]) ah rfl rfl rfl (Ld mO iF nz) (aF rfl rfl (Wg tJ.raw hN) ?_))));rintro v1 H1 ⟨cH,rfl⟩;refine ab 1 rfl (ae [2] ?_);refine aE ⟨.inr rfl,_,.tmp rfl (.nil),?_⟩;exact⟨cH,rfl⟩
theorem DS{H:Heap}{vs:List Value}{q:Rat}(hv:bS H vs q)(hN:(aP q:Int)≤1099511627776):
 Fn Tryz.prog 58 #[.agg vs.toArray] H (tB H (-q)):=by
 obtain⟨n,d,b,rfl,iS⟩:=id hv
 have cQ:=fun ad f u w (h:bK H (.agg #[.bool f,u,w]) q)(_:b=some ad)=>h.raw;refine aZ (args:=[_]) Tryz.func58 rfl rfl Tryz.ntmps58 rfl rfl fun w0=> ?_;refine aj [0] rfl ?_;refine ag (bW rfl rfl (bn fk rfl (ae [1,2] ?_)));refine aq ?_
 rcases iS with ⟨rfl,hn,hd,h1,h2,h3⟩ | ⟨ad,f,u,w,rfl,tJ,mO,iF,nz⟩
 ·
  skip
  refine ag (ab 2 rfl (yF qN rfl rfl (ae [1,2,5] ?_)));refine dR rfl (aA (aj [1,2] rfl ?_));refine ag (ab 2 rfl (tl rfl ⟨by omega,by omega⟩ (ab 2 rfl (de ah rfl fk rfl rfl ?_))));obtain⟨ti,ak,al⟩:=cJ;refine aI (.inl ⟨rfl,rfl⟩) rfl rfl rfl ak al rfl rfl rfl (ae [2] ?_);obtain⟨bQ,aN,aO⟩:=cJ;refine aE ⟨.inr rfl,_,.agg rfl Tryz.underlying90 aN aO (.nil),?_⟩;exact⟨.refl _,_,rfl,-n,d,none,rfl,.inl ⟨rfl,by rw[Rat.neg_num,hn],by rw[Rat.neg_den,hd],by omega,by omega,by omega⟩⟩
 ·
  obtain⟨u1,w1,Bn,eO,gA⟩:=id tJ
  obtain⟨rfl,rfl,rfl⟩:f=decide (q.num<0)∧u=u1∧w=w1:=by simpa using Bn
  obtain⟨mK,mL,rfl,mM,mN⟩:=id eO;obtain⟨DC,DD,rfl,DE,DF⟩:=id gA;refine ag (ab 2 rfl (yF qN rfl rfl (ae [1,2,5] ?_)));refine dJ rfl (ag (ab 3 rfl (yG (vs:=[.bool _,_,_]) ah rfl rfl rfl (Ld mO iF nz) (aF rfl rfl (ae7 tJ.raw hN) ?_))));rintro w1 G1 ⟨fw,cC⟩;obtain⟨u1,x1,rfl,eO,eP⟩:=id cC;obtain⟨mK,mL,rfl,mM,mN⟩:=id eO;obtain⟨tF,tG,rfl,tH,tI⟩:=id eP;refine aF rfl rfl (y6 cC) ?_;rintro w2 G2 ⟨dT,PC,rfl,bO⟩;obtain⟨n2,d2,b2,rfl,_⟩:=id bO;obtain⟨ti,ak,al⟩:=cJ;refine aI (.inl ⟨rfl,rfl⟩) rfl rfl rfl ak al rfl rfl rfl (ae [2] ?_);obtain⟨bQ,aN,aO⟩:=cJ;refine aE ⟨.inr rfl,_,.agg rfl Tryz.underlying90 aN aO (.nil),?_⟩;exact⟨fw.trans dT,_,rfl,bO⟩
end Go.aw
namespace Lp
def bB:Nat→(Nat→Rat)→Rat
 | 0,_=>0
 | n+1,f=>bB n f+f n
theorem fZ(n:Nat)(f:Nat→Rat):bB (n+1) f=bB n f+f n:=rfl
theorem Bq(f:Nat→Rat):bB 0 f=0:=rfl
theorem eS{n:Nat}{f g:Nat→Rat}(h:∀i,i<n→f i=g i):bB n f=bB n g:=by
 induction n with
 | zero=>rfl
 | succ n ih=>
  rw[fZ,fZ,ih (fun i hi=>h i (by omega)),h n (by omega)]
theorem PD(n:Nat)(f g:Nat→Rat):bB n (fun i=>f i+g i)=bB n f+bB n g:=by
 induction n with
 | zero=>simp only[bB];grind
 | succ n ih=>simp only[fZ,ih];grind
theorem GF(n:Nat)(f g:Nat→Rat):bB n (fun i=>f i-g i)=bB n f-bB n g:=by
 induction n with
 | zero=>simp only[bB];grind
 | succ n ih=>simp only[fZ,ih];grind
theorem wU(n:Nat)(k:Rat)(f:Nat→Rat):bB n (fun i=>k*f i)=k*bB n f:=by
 induction n with
 | zero=>simp[bB]
 | succ n ih=>simp only[fZ,ih];grind
theorem vq(n:Nat)(k:Rat)(f:Nat→Rat):bB n (fun i=>f i*k)=bB n f*k:=by
 induction n with
 | zero=>simp[bB]
 | succ n ih=>simp only[fZ,ih];grind
theorem Lg(n:Nat)(f:Nat→Rat):bB n (fun i=> - f i) = - bB n f:=by
 induction n with
 | zero=>simp only[bB];grind
 | succ n ih=>simp only[fZ,ih];grind
theorem Lh(n:Nat):bB n (fun _=>0)=0:=by
 induction n with
 | zero=>rfl
 | succ n ih=>rw[fZ,ih];grind
theorem mP{n:Nat}{f:Nat→Rat}(h:∀i,i<n→f i=0):bB n f=0:=by
 rw[eS h,Lh]
theorem r6{n k:Nat}(hk:k<n)(f:Nat→Rat)(h:∀i,i<n→i≠k→f i=0):bB n f=f k:=by
 induction n with
 | zero=>omega
 | succ n ih=>
  rw[fZ]
  by_cases e:k=n
  ·subst e
   rw[mP (fun i hi=>h i (by omega) (by omega))];grind
  ·rw[ih (by omega) (fun i hi a7=>h i (by omega) a7),h n (by omega) (by omega)];grind
theorem Li(m n:Nat)(f:Nat→Nat→Rat):
  bB m (fun i=>bB n (fun j=>f i j))=bB n (fun j=>bB m (fun i=>f i j)):=by
 induction m with
 | zero=>simp[bB,Lh]
 | succ m ih=>simp only[fZ,ih,PD]
theorem GH{n:Nat}{f:Nat→Rat}(h:∀i,i<n→0≤f i):0≤bB n f:=by
 induction n with
 | zero=>exact Rat.le_refl
 | succ n ih=>
  rw[fZ]
  have h1:=ih (fun i hi=>h i (by omega))
  have h2:=h n (by omega)
  grind
theorem Lj{n:Nat}{f g:Nat→Rat}(h:∀i,i<n→f i≤g i):bB n f≤bB n g:=by
 induction n with
 | zero=>exact Rat.le_refl
 | succ n ih=>
  rw[fZ,fZ]
  have h1:=ih (fun i hi=>h i (by omega))
  have h2:=h n (by omega)
  grind
theorem afe{n:Nat}{f:Nat→Rat}(h:0<bB n f):∃i,i<n∧0<f i:=by
 false_or_by_contra
 rename_i hc
 have:bB n f≤bB n (fun _=>0):=Lj (fun i hi=>by
  have:¬0<f i:=fun hp=>hc ⟨i,hi,hp⟩
  grind)
 rw[Lh]at this
 grind
theorem Wr{n k:Nat}(hk:k<n)(f:Nat→Rat):bB n (fun i=>if i=k then f i else 0)=f k:=by
 rw[r6 hk _ (fun i _ a7=>if_neg a7),if_pos rfl]
structure ar where
 m:Nat
 n:Nat
 A:Nat→Nat→Rat
 c:Nat→Rat
 B:Nat→Nat
namespace ar
def qc(T:ar)(x:Nat→Rat):Prop:=∀i,i<T.m→bB (T.n+1) (fun j=>T.A i j*x j)=0
def cost(T:ar)(x:Nat→Rat):Rat:=bB (T.n+1) (fun j=>T.c j*x j)
structure WF(T:ar):Prop where
 lt:∀i,i<T.m→T.B i<T.n
 unit:∀i k,i<T.m→k<T.m→T.A k (T.B i)=if k=i then 1 else 0
 zero:∀i,i<T.m→T.c (T.B i)=0
theorem WF.inj{T:ar}(h:T.WF){i k:Nat}(hi:i<T.m)(hk:k<T.m)(e:T.B i=T.B k):i=k:=by
 have h1:=h.unit i k hi hk
 have h2:=h.unit k k hk hk
 rw[e,h2]at h1
 simp at h1
 exact h1.symm
def j8(T:ar):Prop:=∀i,i<T.m→0≤T.A i T.n
def dir(T:ar)(s:Nat)(j:Nat):Rat:=(if j=s then 1 else 0)-bB T.m (fun i=>if T.B i=j then T.A i s else 0)
theorem DT(T:ar)(hB:∀i,i<T.m→T.B i<T.n)(s:Nat)(hs:s≤T.n)(f:Nat→Rat):
  bB (T.n+1) (fun j=>f j*T.dir s j)=f s-bB T.m (fun i=>f (T.B i)*T.A i s):=by
 have e1:∀j,f j*T.dir s j=(if j=s then f j else 0)-bB T.m (fun i=>if j=T.B i then f j*T.A i s else 0):=by
  intro j
  unfold dir
  have:bB T.m (fun i=>if j=T.B i then f j*T.A i s else 0)=f j*bB T.m (fun i=>if T.B i=j then T.A i s else 0):=by
   rw[←wU]
   refine eS fun i _=> ?_
   by_cases e:T.B i=j
   ·rw[if_pos e,if_pos e.symm]
   ·rw[if_neg e,if_neg (fun h=>e h.symm)];grind
  rw[this]
  by_cases e:j=s
  ·rw[if_pos e,if_pos e];grind
  ·rw[if_neg e,if_neg e];grind
 rw[eS (fun j _=>e1 j),GF,Wr (by omega)]
 congr 1
 rw[Li]
 refine eS fun i hi=> ?_
 have:=hB i hi
 exact Wr (f:=fun j=>f j*T.A i s) (by omega)
theorem y7{T:ar}(h:T.WF)(s:Nat)(hs:s≤T.n):T.qc (T.dir s):=by
 intro k hk
 rw[DT T h.lt s hs]
 rw[r6 hk]
 ·rw[h.unit k k hk hk,if_pos rfl];grind
 ·intro i hi a7
  rw[h.unit i k hi hk,if_neg (fun e=>a7 e.symm)];grind
theorem DU{T:ar}(h:T.WF)(s:Nat)(hs:s≤T.n):T.cost (T.dir s)=T.c s:=by
 unfold cost
 rw[DT T h.lt s hs,mP]
 ·grind
 ·intro i hi;rw[h.zero i hi];grind
def pivot(T:ar)(r s:Nat):ar:=
 {m:=T.m,n:=T.n
  A:=fun i j=>if i=r then T.A r j/T.A r s else T.A i j-T.A i s*(T.A r j/T.A r s)
  c:=fun j=>T.c j-T.c s*(T.A r j/T.A r s)
  B:=fun i=>if i=r then s else T.B i}
theorem Br{T:ar}(h:T.WF){r s:Nat}(hr:r<T.m)(hs:s<T.n)(hp:T.A r s≠0):(T.pivot r s).WF:=by
 refine⟨fun i hi=> ?_,fun i k hi hk=> ?_,fun i hi=> ?_⟩
 ·simp only[pivot]at hi⊢
  split
  ·exact hs
  ·exact h.lt i hi
 ·simp only[pivot]at hi hk⊢
  by_cases ei:i=r
  ·simp only[if_pos ei]
   by_cases ek:k=r
   ·simp only[ek,ei,if_true];grind
   ·simp only[if_neg ek]
    rw[if_neg (by omega)];grind
  ·simp only[if_neg ei]
   have hu:=h.unit i r hi hr
   rw[if_neg (fun e=>ei e.symm)]at hu
   rw[hu]
   by_cases ek:k=r
   ·simp only[if_pos ek]
    rw[if_neg (by omega)];grind
   ·simp only[if_neg ek]
    rw[h.unit i k hi hk];grind
 ·simp only[pivot]at hi⊢
  by_cases ei:i=r
  ·simp only[if_pos ei];grind
  ·simp only[if_neg ei]
   have hu:=h.unit i r hi hr
   rw[if_neg (fun e=>ei e.symm)]at hu
   rw[hu,h.zero i hi];grind
theorem Ws(T:ar)(r s i:Nat)(x:Nat→Rat):
  bB (T.n+1) (fun j=>(T.pivot r s).A i j*x j) =
   if i=r then bB (T.n+1) (fun j=>T.A r j*x j)/T.A r s
   else bB (T.n+1) (fun j=>T.A i j*x j)-T.A i s*(bB (T.n+1) (fun j=>T.A r j*x j)/T.A r s):=by
 simp only[pivot]
 by_cases e:i=r
 ·simp only[if_pos e]
  rw[Rat.div_def,←vq]
  exact eS fun j _=>by grind
 ·simp only[if_neg e]
  rw[Rat.div_def,←vq,←wU,←GF]
  exact eS fun j _=>by grind
theorem PE{T:ar}{r s:Nat}(hr:r<T.m)(hp:T.A r s≠0)(x:Nat→Rat):(T.pivot r s).qc x↔T.qc x:=by
 constructor
 ·intro h i hi
  have dU:=h r hr
  have gi:=h i hi
  have en:(T.pivot r s).n=T.n:=rfl
  rw[en,Ws]at dU gi
  rw[if_pos rfl]at dU
  have h0:bB (T.n+1) (fun j=>T.A r j*x j)=0:=by grind
  by_cases e:i=r
  ·subst e;exact h0
  ·rw[if_neg e]at gi;grind
 ·intro h i hi
  have en:(T.pivot r s).n=T.n:=rfl
  have em:(T.pivot r s).m=T.m:=rfl
  rw[em]at hi
  rw[en,Ws,h r hr,h i hi]
  split <;> grind
theorem Wt{T:ar}{r s:Nat}(hr:r<T.m)(x:Nat→Rat)(hx:T.qc x):(T.pivot r s).cost x=T.cost x:=by
 have e:(T.pivot r s).cost x=T.cost x-T.c s*(bB (T.n+1) (fun j=>T.A r j*x j)/T.A r s):=by
  unfold cost
  simp only[pivot]
  rw[Rat.div_def,←vq,←wU,←GF]
  exact eS fun j _=>by grind
 rw[e,hx r hr];grind
structure pz(T:ar)(u r s:Nat):Prop where
 su:s<u
 neg:T.c s<0
 first:∀j,j<s→0≤T.c j
 rm:r<T.m
 pos:0<T.A r s
 least:∀i,i<T.m→0<T.A i s→T.A r T.n/T.A r s<T.A i T.n/T.A i s∨(T.A r T.n/T.A r s=T.A i T.n/T.A i s∧T.B r≤T.B i)
theorem PF{a b:Rat}(ha:0≤a)(hb:0<b):0≤a/b:=by
 rw[Rat.div_def]
 have:0<b⁻¹:=Rat.inv_pos.2 hb
 exact Rat.mul_nonneg ha (Rat.le_of_lt this)
theorem GI{T:ar}{u r s:Nat}(hf:T.j8)(hb:T.pz u r s):(T.pivot r s).j8:=by
 intro i hi
 have gi:i<T.m:=hi
 have hr:=hf r hb.rm
 have uS:=hf i gi
 have hq:0≤T.A r T.n/T.A r s:=PF hr hb.pos
 show 0≤(if i=r then T.A r T.n/T.A r s else T.A i T.n-T.A i s*(T.A r T.n/T.A r s))
 split
 ·exact hq
 ·by_cases hp:0<T.A i s
  ·have hl:T.A r T.n/T.A r s≤T.A i T.n/T.A i s:=by
    rcases hb.least i gi hp with h | h
    ·exact Rat.le_of_lt h
    ·rw[h.1];exact Rat.le_refl
   have h3:T.A i s*(T.A r T.n/T.A r s)≤T.A i s*(T.A i T.n/T.A i s):=Rat.mul_le_mul_of_nonneg_left hl (Rat.le_of_lt hp)
   have h4:T.A i s*(T.A i T.n/T.A i s)=T.A i T.n:=by grind
   grind
  ·have h5:0≤(- T.A i s)*(T.A r T.n/T.A r s):=Rat.mul_nonneg (by grind) hq
   grind
structure tL(u:Nat)(len:Nat) where
 T:Nat→ar
 r:Nat→Nat
 s:Nat→Nat
 wf:(T 0).WF
 dd:(T 0).j8
 un:u≤(T 0).n
 step:∀k,k<len→(T k).pz u (r k) (s k)
 next:∀k,k<len→T (k+1)=(T k).pivot (r k) (s k)
namespace tL
variable {u len:Nat} (R:tL u len)
theorem DV(k:Nat)(hk:k≤len):(R.T k).n=(R.T 0).n:=by
 induction k with
 | zero=>rfl
 | succ k ih=>rw[R.next k (by omega)];exact ih (by omega)
theorem sn{k:Nat}(hk:k<len):R.s k<(R.T k).n:=by
 have:=(R.step k hk).su
 have:=R.un
 rw[R.DV k (by omega)];omega
theorem y8(k:Nat)(hk:k≤len):(R.T k).WF:=by
 induction k with
 | zero=>exact R.wf
 | succ k ih=>
  rw[R.next k (by omega)]
  have hb:=R.step k (by omega)
  have:=hb.pos
  exact Br (ih (by omega)) hb.rm (R.sn (by omega)) (by grind)
theorem aff(k:Nat)(hk:k≤len):(R.T k).j8:=by
 induction k with
 | zero=>exact R.dd
 | succ k ih=>
  rw[R.next k (by omega)]
  exact GI (ih (by omega)) (R.step k (by omega))
theorem Wu(k:Nat)(hk:k≤len)(x:Nat→Rat):(R.T k).qc x↔(R.T 0).qc x:=by
 induction k with
 | zero=>exact Iff.rfl
 | succ k ih=>
  rw[R.next k (by omega)]
  have hb:=R.step k (by omega)
  have:=hb.pos
  rw[PE hb.rm (by grind)]
  exact ih (by omega)
theorem Wv(k:Nat)(hk:k≤len)(x:Nat→Rat)(hx:(R.T 0).qc x):(R.T k).cost x=(R.T 0).cost x:=by
 induction k with
 | zero=>rfl
 | succ k ih=>
  rw[R.next k (by omega)]
  have hb:=R.step k (by omega)
  rw[Wt hb.rm x ((R.Wu k (by omega) x).2 hx)]
  exact ih (by omega)
def basic(k j:Nat):Prop:=∃i,i<(R.T k).m∧(R.T k).B i=j
def val(T:ar)(j:Nat):Rat:=bB T.m (fun i=>if T.B i=j then T.A i T.n else 0)
theorem PG{T:ar}(h:T.WF){i:Nat}(hi:i<T.m):val T (T.B i)=T.A i T.n:=by
 unfold val
 rw[r6 hi,if_pos rfl]
 intro k hk a7
 rw[if_neg]
 exact fun e=>a7 (h.inj hk hi e)
def vt(k:Nat):Prop:=(R.T k).A (R.r k) (R.T k).n=0
theorem Ww{k:Nat}(hk:k<len)(hd:R.vt k)(j:Nat):val (R.T (k+1)) j=val (R.T k) j:=by
 rw[R.next k hk]
 unfold val
 unfold vt at hd
 refine eS fun i hi=> ?_
 simp only[pivot]
 rw[hd]
 by_cases e:i=R.r k
 ·subst e;simp only[if_true,hd];grind
 ·simp only[if_neg e];grind
theorem Wx{a b:Nat}(Bs:a≤b)(hb:b≤len)(hd:∀k,a≤k→k<b→R.vt k)(j:Nat):val (R.T b) j=val (R.T a) j:=by
 induction b with
 | zero=>obtain rfl:a=0:=by omega
         rfl
 | succ b ih=>
  by_cases e:a=b+1
  ·subst e;rfl
  ·rw[R.Ww (by omega) (hd b (by omega) (by omega))]
   exact ih (by omega) (by omega) (fun k h1 h2=>hd k h1 (by omega))
theorem GJ{k:Nat}(hk:k<len)(j:Nat):R.basic (k+1) j↔(j=R.s k∨(R.basic k j∧j≠(R.T k).B (R.r k))):=by
 unfold basic
 rw[R.next k hk]
 have hb:=R.step k hk
 have hw:=R.y8 k (by omega)
 constructor
 ·rintro⟨i,hi,e⟩
  have gi:i<(R.T k).m:=hi
  have e':(if i=R.r k then R.s k else(R.T k).B i)=j:=e
  by_cases er:i=R.r k
  ·rw[if_pos er]at e';exact .inl e'.symm
  ·rw[if_neg er]at e'
   refine .inr ⟨⟨i,gi,e'⟩,fun h=>er (hw.inj gi hb.rm (by rw[e',h]))⟩
 ·rintro(h | ⟨⟨i,hi,e⟩,a7⟩)
  ·refine⟨R.r k,hb.rm,?_⟩
   show (if R.r k=R.r k then R.s k else _)=j
   rw[if_pos rfl,h]
  ·refine⟨i,hi,?_⟩
   show (if i=R.r k then R.s k else(R.T k).B i)=j
   rw[if_neg,e]
   intro er;exact a7 (by rw[←e,er])
theorem PH{k:Nat}(hk:k<len):¬R.basic k (R.s k):=by
 rintro⟨i,hi,e⟩
 have:=(R.y8 k (by omega)).zero i hi
 rw[e]at this
 have:=(R.step k hk).neg
 grind
theorem PI{k:Nat}(hk:k<len):R.basic k ((R.T k).B (R.r k)):=⟨_,(R.step k hk).rm,rfl⟩
theorem change{a b:Nat}(Bs:a≤b)(hb:b≤len)(j:Nat)(h:¬(R.basic a j↔R.basic b j)):
  ∃k,a≤k∧k<b∧(R.s k=j∨(R.T k).B (R.r k)=j):=by
 induction b with
 | zero=>obtain rfl:a=0:=by omega
         exact absurd Iff.rfl h
 | succ b ih=>
  by_cases e:a=b+1
  ·subst e;exact absurd Iff.rfl h
  ·by_cases h2:R.s b=j∨(R.T b).B (R.r b)=j
   ·exact⟨b,by omega,by omega,h2⟩
   ·have:R.basic (b+1) j↔R.basic b j:=by
     rw[R.GJ (by omega)]
     constructor
     ·rintro(h | h)
      ·exact absurd (.inl h.symm) h2
      ·exact h.1
     ·exact fun h=> .inr ⟨h,fun e=>h2 (.inr e.symm)⟩
    obtain⟨k,h3,h4,h5⟩:=ih (by omega) (by omega) (fun hh=>h (hh.trans this.symm))
    exact⟨k,h3,by omega,h5⟩
theorem val_zero{k:Nat}(hk:k<len)(hd:R.vt k){j:Nat}(h:R.s k=j∨(R.T k).B (R.r k)=j):val (R.T k) j=0:=by
 rcases h with h | h
 ·rw[←R.Ww hk hd]
  have e:j=(R.T (k+1)).B (R.r k):=by
   rw[R.next k hk]
   show j=if R.r k=R.r k then R.s k else _
   rw[if_pos rfl,h]
  rw[e,PG (R.y8 (k+1) (by omega)) (by rw[R.next k hk];exact(R.step k hk).rm)]
  rw[R.next k hk]
  show (if R.r k=R.r k then(R.T k).A (R.r k) (R.T k).n/(R.T k).A (R.r k) (R.s k)else _)=0
  rw[if_pos rfl]
  unfold vt at hd
  rw[hd];grind
 ·rw[←h,PG (R.y8 k (by omega)) (R.step k hk).rm]
  exact hd
theorem Lk{a b t p q:Nat}(hb:b≤len)(hd:∀k,a≤k→k<b→R.vt k)
  (hle:∀k,a≤k→k<b→R.s k≤t∧(R.T k).B (R.r k)≤t) (fH:a≤p) (ee:p<b) (cC:a≤q) (bO:q<b)
  (hp:(R.T p).B (R.r p)=t) (hq:R.s q=t):False:=by
 have bp:=R.step p (by omega)
 have bq:=R.step q (by omega)
 have wp:=R.y8 p (by omega)
 have hs:R.s p<t:=by
  have h1:=(hle p fH ee).1
  have h2:R.s p≠t:=fun e=>R.PH (k:=p) (by omega) (by rw[e,←hp];exact R.PI (by omega))
  omega
 have mQ:R.s p≤(R.T p).n:=Nat.le_of_lt (R.sn (by omega))
 have afg:=y7 wp (R.s p) mQ
 have Wy:=(R.Wu p (by omega) _).1 afg
 have hc:=DU wp (R.s p) mQ
 rw[R.Wv p (by omega) _ Wy,←R.Wv q (by omega) _ Wy]at hc
 have en:(R.T q).n=(R.T p).n:=by rw[R.DV p (by omega),R.DV q (by omega)]
 unfold cost at hc
 rw[en,DT _ wp.lt _ mQ]at hc
 have iz:0≤(R.T q).c (R.s p):=bq.first _ (by rw[hq];exact hs)
 have gj:=bp.neg
 have DW:0<bB (R.T p).m (fun i=>(R.T q).c ((R.T p).B i)*(R.T p).A i (R.s p)):=by grind
 obtain⟨i,hi,wV⟩:=afe DW
 have GD:¬R.basic q ((R.T p).B i):=by
  rintro⟨k,hk,e⟩
  have:=(R.y8 q (by omega)).zero k hk
  rw[e]at this
  rw[this]at wV;grind
 have OZ:R.basic p ((R.T p).B i):=⟨i,hi,rfl⟩
 have hex:∃k,a≤k∧k<b∧min p q≤k∧(R.s k=(R.T p).B i∨(R.T k).B (R.r k)=(R.T p).B i):=by
  rcases Nat.le_total p q with nu | nu
  ·obtain⟨k,h1,h2,h3⟩:=R.change nu (by omega) ((R.T p).B i) (fun h=>GD (h.1 OZ))
   exact⟨k,by omega,by omega,by omega,h3⟩
  ·obtain⟨k,h1,h2,h3⟩:=R.change nu (by omega) ((R.T p).B i) (fun h=>GD (h.2 OZ))
   exact⟨k,by omega,by omega,by omega,h3⟩
 obtain⟨k,gI,fO,_,dy⟩:=hex
 have qd:(R.T p).B i≤t:=by
  rcases dy with e | e
  ·rw[←e];exact(hle k gI fO).1
  ·rw[←e];exact(hle k gI fO).2
 have Le:val (R.T k) ((R.T p).B i)=0:=R.val_zero (by omega) (hd k gI fO) dy
 have Wz:val (R.T p) ((R.T p).B i)=0:=by
  rcases Nat.le_total p k with h | h
  ·rw[←R.Wx h (by omega) (fun x h1 h2=>hd x (by omega) (by omega))];exact Le
  ·rw[R.Wx h (by omega) (fun x h1 h2=>hd x (by omega) (by omega))];exact Le
 rw[PG wp hi]at Wz
 by_cases et:(R.T p).B i=t
 ·have:i=R.r p:=wp.inj hi bp.rm (by rw[et,hp])
  subst this
  have h1:=bq.neg
  rw[hq,←et]at h1
  have h2:=bp.pos
  have h3:(R.T q).c ((R.T p).B (R.r p))*(R.T p).A (R.r p) (R.s p)<0:=by
   have:=Rat.mul_pos (show 0 < -(R.T q).c ((R.T p).B (R.r p)) by grind) h2
   grind
  grind
 ·have bL:(R.T p).B i<t:=by omega
  have mO:0≤(R.T q).c ((R.T p).B i):=bq.first _ (by rw[hq];exact bL)
  have hA:0<(R.T p).A i (R.s p):=by
   false_or_by_contra
   rename_i hn
   have:0≤(R.T q).c ((R.T p).B i)*(-(R.T p).A i (R.s p)):=Rat.mul_nonneg mO (by grind)
   grind
  have PJ:=hd p fH ee
  unfold vt at PJ
  have e0:(0:Rat)/(R.T p).A (R.r p) (R.s p)=0:=by grind
  have e1:(0:Rat)/(R.T p).A i (R.s p)=0:=by grind
  rcases bp.least i hi hA with h | h
  ·rw[PJ,Wz,e0,e1]at h;exact absurd h (by decide)
  ·have:=h.2;omega
theorem short(t:Nat):∀a b,a≤b→b≤len→(∀k,a≤k→k<b→R.vt k)→
  (∀k,a≤k→k<b→R.s k<t∧(R.T k).B (R.r k)<t)→b<a+2^t:=by
 induction t with
 | zero=>
  intro a b Bs hb hd bL
  by_cases e:a=b
  ·subst e;simp
  ·have:=bL a (Nat.le_refl _) (by omega);omega
 | succ t ih=>
  intro a b Bs hb hd bL
  have hle:∀k,a≤k→k<b→R.s k≤t∧(R.T k).B (R.r k)≤t:=fun k h1 h2=>by
   have:=bL k h1 h2;omega
  have h2:2^(t+1)=2^t+2^t:=by rw[Nat.pow_succ];omega
  have wV:0<2^t:=Nat.pow_pos (by omega)
  have once:∀k l,a≤k→k<l→l<b→(R.s k=t∨(R.T k).B (R.r k)=t)→¬(R.s l=t∨(R.T l).B (R.r l)=t):=by
   intro k l hk PK hl iT kU
   rcases iT with iT | iT
   ·
    have dC:R.s l=t:=by
     rcases kU with h | h
     ·exact h
     ·exact(R.Lk hb hd hle (p:=l) (q:=k) (by omega) (by omega) (by omega) (by omega) h iT).elim
    have y9:R.basic (k+1) t:=(R.GJ (by omega) t).2 (.inl iT.symm)
    have kL:¬R.basic l t:=by rw[←dC];exact R.PH (by omega)
    obtain⟨x,h1,h2,h3⟩:=R.change (a:=k+1) (b:=l) (by omega) (by omega) t (fun h=>kL (h.1 y9))
    have hx:∀y,k+1≤y→y≤l→R.basic y t:=by
     intro y hy
     induction y with
     | zero=>omega
     | succ y PL=>
      intro kV
      by_cases e:k=y
      ·subst e;exact y9
      ·have:=PL (by omega) (by omega)
       refine(R.GJ (by omega) t).2 (.inr ⟨this,fun e=> ?_⟩)
       exact R.Lk hb hd hle (p:=y) (q:=k) (by omega) (by omega) (by omega) (by omega) e.symm iT
    exact kL (hx l (by omega) (Nat.le_refl _))
   ·have dC:(R.T l).B (R.r l)=t:=by
     rcases kU with h | h
     ·exact(R.Lk hb hd hle (p:=k) (q:=l) (by omega) (by omega) (by omega) (by omega) iT h).elim
     ·exact h
    have y9:¬R.basic (k+1) t:=by
     rw[R.GJ (by omega) t]
     rintro(h | h)
     ·exact R.PH (k:=k) (by omega) (by rw[←h,←iT];exact R.PI (by omega))
     ·exact h.2 iT.symm
    have kL:R.basic l t:=by rw[←dC];exact R.PI (by omega)
    have hx:∀y,k+1≤y→y≤l→¬R.basic y t:=by
     intro y hy
     induction y with
     | zero=>omega
     | succ y PL=>
      intro kV
      by_cases e:k=y
      ·subst e;exact y9
      ·have:=PL (by omega) (by omega)
       rw[R.GJ (by omega) t]
       rintro(h | h)
       ·exact R.Lk hb hd hle (p:=k) (q:=y) (by omega) (by omega) (by omega) (by omega) iT h.symm
       ·exact this h.1
    exact hx l (by omega) (Nat.le_refl _) kL
  by_cases hex:∃k,a≤k∧k<b∧(R.s k=t∨(R.T k).B (R.r k)=t)
  ·obtain⟨k,gI,fO,dy⟩:=hex
   have h3:=ih a k (by omega) (by omega) (fun x h1 h2=>hd x h1 (by omega)) (fun x h1 h2=>by
    have hl:=hle x h1 (by omega)
    have hn:¬(R.s x=t∨(R.T x).B (R.r x)=t):=fun h=>once x k h1 h2 fO h dy
    omega)
   have h4:=ih (k+1) b (by omega) hb (fun x h1 h2=>hd x (by omega) h2) (fun x h1 h2=>by
    have hl:=hle x (by omega) h2
    have hn:=once k x gI (by omega) h2 dy
    omega)
   omega
  ·have h3:=ih a b Bs hb hd (fun x h1 h2=>by
    have hl:=hle x h1 h2
    have hn:¬(R.s x=t∨(R.T x).B (R.r x)=t):=fun h=>hex ⟨x,h1,h2,h⟩
    omega)
   omega
end tL
end ar
end Lp
namespace Lp
namespace ar
structure j9(T S:ar):Prop where
 m:S.m=T.m
 n:S.n=T.n
 oh:∀x,S.qc x↔T.qc x
 cost:∀x,T.qc x→S.cost x=T.cost x
theorem j9.symm{T S:ar}(h:j9 T S):j9 S T:=⟨h.m.symm,h.n.symm,fun x=>(h.oh x).symm,fun x hx=>(h.cost x ((h.oh x).1 hx)).symm⟩
theorem j9.trans{T S R:ar}(h:j9 T S)(h':j9 S R):j9 T R:=
 ⟨h'.m.trans h.m,h'.n.trans h.n,fun x=>(h'.oh x).trans (h.oh x),fun x hx=>(h'.cost x ((h.oh x).2 hx)).trans (h.cost x hx)⟩
theorem j9.pivot{T:ar}{r s:Nat}(hr:r<T.m)(hp:T.A r s≠0):j9 T (T.pivot r s):=
 ⟨rfl,rfl,fun x=>PE hr hp x,fun x hx=>Wt hr x hx⟩
theorem afh{T S:ar}(h:j9 T S)(hT:T.WF)(hS:S.WF)(hB:∀i,i<T.m→S.B i=T.B i):S.c S.n=T.c T.n:=by
 have h1:=y7 hT T.n (Nat.le_refl _)
 have h2:=h.cost _ h1
 rw[DU hT T.n (Nat.le_refl _)]at h2
 unfold cost at h2
 rw[h.n,DT T hT.lt _ (Nat.le_refl _),mP]at h2
 ·rw[h.n];grind
 ·intro i hi
  rw[←hB i hi,hS.zero i (by rw[h.m];exact hi)];grind
def GK(n:Nat):Nat→List (List Nat)
 | 0=>[[]]
 | m+1=>(GK n m).flatMap fun l=>(List.range n).map fun j=>l ++ [j]
theorem afi(n m:Nat)(f:Nat→Nat)(h:∀i,i<m→f i<n):(List.range m).map f∈GK n m:=by
 induction m with
 | zero=>simp[GK]
 | succ m ih=>
  simp only[GK,List.mem_flatMap,List.mem_map,List.mem_range]
  exact⟨_,ih (fun i hi=>h i (by omega)),f m,h m (by omega),by rw[List.range_succ,List.map_append];rfl⟩
theorem WA{α:Type}(p q:α→Bool)(l:List α)(h:∀x,x∈l→p x=true→q x=true)
  (hx:∃x,x∈l∧q x=true∧p x=false):l.countP p<l.countP q:=by
 induction l with
 | nil=>obtain⟨x,hx,_⟩:=hx;cases hx
 | cons a l ih=>
  have hle:l.countP p≤l.countP q:=List.countP_mono_left fun x hx hp=>h x (List.mem_cons_of_mem _ hx) hp
  rw[List.countP_cons,List.countP_cons]
  obtain⟨x,eP,eR,gD⟩:=hx
  rcases List.mem_cons.1 eP with e | e
  ·subst e
   rw[eR,gD];simp;omega
  ·have:=ih (fun y hy=>h y (List.mem_cons_of_mem _ hy)) ⟨x,e,eR,gD⟩
   have ha:=h a (List.mem_cons_self ..)
   cases hp:p a
   ·simp;omega
   ·rw[ha hp];simp;omega
def Ll(T:ar)(l:List Nat):Prop:=∃S:ar,S.WF∧j9 T S∧(List.range T.m).map S.B=l∧T.c T.n<S.c S.n
open Classical in
noncomputable def wW(T:ar):Nat:=(GK T.n T.m).countP fun l=>decide (Ll T l)
theorem Ll.of{T S:ar}(h:j9 T S)(hv:T.c T.n≤S.c S.n){l:List Nat}(hb:Ll S l):Ll T l:=by
 obtain⟨R,h1,h2,h3,h4⟩:=hb
 refine⟨R,h1,h.trans h2,by rw[←h.m];exact h3,by grind⟩
open Classical in
theorem afj{T S:ar}(h:j9 T S)(hv:T.c T.n≤S.c S.n):wW S≤wW T:=by
 unfold wW
 rw[h.m,h.n]
 exact List.countP_mono_left fun l _ hp=>by
  have:=of_decide_eq_true hp
  exact decide_eq_true (this.of h hv)
open Classical in
theorem afk{T S:ar}(h:j9 T S)(hS:S.WF)(hv:T.c T.n<S.c S.n):wW S<wW T:=by
 unfold wW
 rw[h.m,h.n]
 refine WA _ _ _ (fun l _ hp=> ?_) ⟨(List.range T.m).map S.B,?_,?_,?_⟩
 ·have:=of_decide_eq_true hp
  exact decide_eq_true (this.of h (Rat.le_of_lt hv))
 ·exact afi _ _ _ (fun i hi=>by rw[←h.n];exact hS.lt i (by rw[h.m];exact hi))
 ·exact decide_eq_true ⟨S,hS,h,rfl,hv⟩
 ·refine decide_eq_false ?_
  rintro⟨R,h1,h2,h3,h4⟩
  have:R.c R.n=S.c S.n:=afh h2 hS h1 (fun i hi=>by
   rw[h.m]at h3 hi
   exact List.map_inj_left.1 h3 i (List.mem_range.2 hi))
  grind
theorem afl{T:ar}{u r s:Nat}(hf:T.j8)(hb:T.pz u r s):
  T.c T.n≤(T.pivot r s).c (T.pivot r s).n∧(T.A r T.n≠0→T.c T.n<(T.pivot r s).c (T.pivot r s).n):=by
 have e:(T.pivot r s).c (T.pivot r s).n=T.c T.n-T.c s*(T.A r T.n/T.A r s):=rfl
 rw[e]
 have hq:=PF (hf r hb.rm) hb.pos
 have hn:=hb.neg
 constructor
 ·have:=Rat.mul_nonneg (show 0≤- T.c s by grind) hq
  grind
 ·intro h0
  have hp:0<T.A r T.n/T.A r s:=by
   have wV:=hb.pos
   have:T.A r T.n/T.A r s≠0:=fun h=>h0 (by
    have:T.A r T.n/T.A r s*T.A r s=T.A r T.n:=by grind
    grind)
   grind
  have:=Rat.mul_pos (show 0 < - T.c s by grind) hp
  grind
def Step(u:Nat)(S T:ar):Prop:=∃r s,T.pz u r s∧S=T.pivot r s
def tL.nil{u:Nat}(T:ar)(hw:T.WF)(hf:T.j8)(hu:u≤T.n):tL u 0:=
 {T:=fun _=>T,r:=fun _=>0,s:=fun _=>0,wf:=hw,dd:=hf,un:=hu
  step:=fun k hk=>absurd hk (by omega),next:=fun k hk=>absurd hk (by omega)}
def tL.snoc{u h:Nat}(R:tL u h)(r s:Nat)(hb:(R.T h).pz u r s):tL u (h+1):=
 {T:=fun k=>if k≤h then R.T k else(R.T h).pivot r s
  r:=fun k=>if k<h then R.r k else r
  s:=fun k=>if k<h then R.s k else s
  wf:=by simpa using R.wf
  dd:=by simpa using R.dd
  un:=by simpa using R.un
  step:=fun k hk=>by
   simp only[show k≤h by omega,if_true]
   by_cases e:k<h
   ·simp only[e,if_true];exact R.step k e
   ·simp only[e,if_false]
    obtain rfl:k=h:=by omega
    exact hb
  next:=fun k hk=>by
   simp only[show k≤h by omega,if_true]
   by_cases e:k<h
   ·simp only[e,if_true,show k+1≤h by omega];exact R.next k e
   ·simp only[e,if_false]
    obtain rfl:k=h:=by omega
    simp only[show ¬(k+1≤k) by omega,if_false]}
theorem ends(u:Nat):∀(v:Nat)(T:ar),T.WF→T.j8→u≤T.n→wW T≤v→Acc (Step u) T:=by
 intro v
 induction v using Nat.strongRecOn with
 | _ v ih=>
  intro T hw hf hu hv
  have key:∀d h (R:tL u h),(∀k,k<h→R.vt k)→wW (R.T h)≤v→2^(R.T 0).n≤h+d→Acc (Step u) (R.T h):=by
   intro d
   induction d with
   | zero=>
    intro h R hd hr hp
    have:=R.short (R.T 0).n 0 h (by omega) (Nat.le_refl _) (fun k _ hk=>hd k hk) (fun k _ hk=>by
     refine⟨?_,?_⟩
     ·have:=R.sn hk
      rw[R.DV k (by omega)]at this;exact this
     ·have:=(R.y8 k (by omega)).lt _ (R.step k hk).rm
      rw[R.DV k (by omega)]at this;exact this)
    omega
   | succ d ihd=>
    intro h R hd hr hp
    refine Acc.intro _ fun S hS=> ?_
    obtain⟨r,s,hb,rfl⟩:=hS
    have PM:=R.y8 h (Nat.le_refl _)
    have Bt:=R.aff h (Nat.le_refl _)
    have qa:u≤(R.T h).n:=by rw[R.DV h (Nat.le_refl _)];exact R.un
    have wV:=hb.pos
    have a7:(R.T h).A r s≠0:=by grind
    have mQ:s<(R.T h).n:=by have:=hb.su;omega
    have qO:=j9.pivot hb.rm a7
    have tM:=afl Bt hb
    by_cases h0:(R.T h).A r (R.T h).n=0
    ·have e:(R.snoc r s hb).T (h+1)=(R.T h).pivot r s:=by
      show (if h+1≤h then _ else _)=_
      rw[if_neg (by omega)]
     rw[←e]
     refine ihd (h+1) (R.snoc r s hb) (fun k hk=> ?_) ?_ ?_
     ·unfold tL.vt
      have e1:(R.snoc r s hb).T k=R.T k:=by
       show (if k≤h then _ else _)=_
       rw[if_pos (by omega)]
      rw[e1]
      by_cases ek:k<h
      ·have e2:(R.snoc r s hb).r k=R.r k:=by
        show (if k<h then _ else _)=_
        rw[if_pos ek]
       rw[e2];exact hd k ek
      ·obtain rfl:k=h:=by omega
       have e2:(R.snoc r s hb).r k=r:=by
        show (if k<k then _ else _)=_
        rw[if_neg (by omega)]
       rw[e2];exact h0
     ·rw[e];exact Nat.le_trans (afj qO tM.1) hr
     ·have e3:(R.snoc r s hb).T 0=R.T 0:=by
       show (if 0≤h then R.T 0 else(R.T h).pivot r s)=_
       rw[if_pos (by omega)]
      rw[e3];omega
    ·have bL:=afk qO (Br PM hb.rm mQ a7) (tM.2 h0)
     exact ih (wW ((R.T h).pivot r s)) (by omega) _ (Br PM hb.rm mQ a7) (GI Bt hb) qa (Nat.le_refl _)
  have:=key (2^T.n) 0 (tL.nil T hw hf hu) (fun k hk=>absurd hk (by omega)) hv (by
   show 2^T.n≤0+2^T.n
   omega)
  exact this
theorem PN{u:Nat}{T:ar}(hw:T.WF)(hf:T.j8)(hu:u≤T.n):Acc (Step u) T:=ends u _ T hw hf hu (Nat.le_refl _)
end ar
end Lp
namespace Lp
structure LP where
 n:Nat
 m:Nat
 free:Nat→Bool
 a:Nat→Nat→Rat
 rel:Nat→Int
 b:Nat→Rat
def Bu(r:Int)(x:Rat):Prop:=(r=1→x≤0)∧(r=2→x=0)∧(r=3→0≤x)
def bN(n:Nat)(c x:Nat→Rat):Rat:=bB n (fun j=>c j*x j)
namespace LP
variable (p:LP)
def Valid:Prop:=∀i,i<p.m→p.rel i=1∨p.rel i=2∨p.rel i=3
def dY(t:Rat)(x:Nat→Rat):Prop:=(∀j,j<p.n→p.free j=false→0≤x j)∧∀i,i<p.m→Bu (p.rel i) (bN p.n (p.a i) x-p.b i*t)
def Signed(y:Nat→Rat):Prop:=∀i,i<p.m→(p.rel i=3→0≤y i)∧(p.rel i=1→y i≤0)
def ka(y:Nat→Rat)(j:Nat):Rat:=bB p.m (fun i=>y i*p.a i j)
def vu(y:Nat→Rat):Rat:=bB p.m (fun i=>y i*p.b i)
structure za(c x y:Nat→Rat):Prop where
 dd:p.dY 1 x
 signed:p.Signed y
 iG:∀j,j<p.n→0≤c j-p.ka y j∧(p.free j=true→c j-p.ka y j≤0)
 eq:p.vu y=bN p.n c x
structure zb(y:Nat→Rat):Prop where
 signed:p.Signed y
 iG:∀j,j<p.n→p.ka y j≤0∧(p.free j=true→0≤p.ka y j)
 pos:0<p.vu y
structure zc(c x r:Nat→Rat):Prop where
 dd:p.dY 1 x
 ray:p.dY 0 r
 neg:bN p.n c r<0
def wX:Prop:=∀x,¬p.dY 1 x
def vv(c:Nat→Rat)(v:Rat):Prop:=(∃x,p.dY 1 x∧bN p.n c x=v)∧∀x,p.dY 1 x→v≤bN p.n c x
def zd(c:Nat→Rat):Prop:=(∃x,p.dY 1 x)∧∀v,∃x,p.dY 1 x∧bN p.n c x<v
end LP
theorem WB(n:Nat)(c x y:Nat→Rat):bN n c (fun j=>x j+y j)=bN n c x+bN n c y:=by
 unfold bN
 rw[←PD]
 exact eS fun j _=>by grind
theorem WC(n:Nat)(c x:Nat→Rat)(k:Rat):bN n c (fun j=>k*x j)=k*bN n c x:=by
 unfold bN
 rw[←wU]
 exact eS fun j _=>by grind
theorem afm{n:Nat}{c c' x x':Nat→Rat}(h:∀j,j<n→c j=c' j)(h':∀j,j<n→x j=x' j):bN n c x=bN n c' x':=
 eS fun j hj=>by rw[h j hj,h' j hj]
namespace LP
variable {p:LP}
theorem afn(p:LP)(y x:Nat→Rat):bN p.n (p.ka y) x=bB p.m (fun i=>y i*bN p.n (p.a i) x):=by
 unfold bN ka
 have h1:∀j,bB p.m (fun i=>y i*p.a i j)*x j=bB p.m (fun i=>y i*p.a i j*x j):=fun j=>(vq _ _ _).symm
 have h2:∀i,y i*bB p.n (fun j=>p.a i j*x j)=bB p.n (fun j=>y i*p.a i j*x j):=fun i=>by
  rw[←wU]
  exact eS fun j _=>by grind
 rw[eS (fun j _=>h1 j),eS (fun i _=>h2 i),Li]
theorem WD(hv:p.Valid){t:Rat}{x y:Nat→Rat}(hx:p.dY t x)(hy:p.Signed y):p.vu y*t≤bN p.n (p.ka y) x:=by
 rw[afn]
 unfold vu
 rw[←vq]
 refine Lj fun i hi=> ?_
 have h1:=hx.2 i hi
 have h2:=hy i hi
 rcases hv i hi with e | e | e
 ·have h3:=h1.1 e
  have h4:=h2.2 e
  have h5:0≤(- y i)*(- (bN p.n (p.a i) x-p.b i*t)):=Rat.mul_nonneg (by grind) (by grind)
  grind
 ·have h3:=h1.2.1 e
  have:bN p.n (p.a i) x=p.b i*t:=by grind
  rw[this];grind
 ·have h3:=h1.2.2 e
  have h4:=h2.1 e
  have h5:0≤y i*(bN p.n (p.a i) x-p.b i*t):=Rat.mul_nonneg h4 h3
  grind
theorem zb.isInf(hv:p.Valid){y:Nat→Rat}(h:p.zb y):p.wX:=fun x hx=>by
 have h1:=WD hv hx h.signed
 have h2:bN p.n (p.ka y) x≤0:=by
  have:bN p.n (p.ka y) x≤bB p.n (fun _=>0):=Lj fun j hj=>by
   have h3:=h.iG j hj
   cases hf:p.free j with
   | true=>have h4:=h3.2 hf;have:p.ka y j=0:=by grind
           rw[this];grind
   | false=>
    have h5:=hx.1 j hj hf
    have:0≤(- p.ka y j)*x j:=Rat.mul_nonneg (by grind) h5
    grind
  rwa [Lh]at this
 have:=h.pos
 grind
theorem below{c x y:Nat→Rat}(hv:p.Valid)(hx:p.dY 1 x)(hy:p.Signed y)(hc:∀j,j<p.n→0≤c j-p.ka y j∧(p.free j=true→c j-p.ka y j≤0)):p.vu y≤bN p.n c x:=by
 have h1:=WD hv hx hy
 have h2:bN p.n (p.ka y) x≤bN p.n c x:=Lj fun j hj=>by
  have h3:=hc j hj
  cases hf:p.free j with
  | true=>have h4:=h3.2 hf;have:p.ka y j=c j:=by grind
          rw[this];exact Rat.le_refl
  | false=>
   have h5:=hx.1 j hj hf
   have:0≤(c j-p.ka y j)*x j:=Rat.mul_nonneg h3.1 h5
   grind
 grind
theorem za.Lm(hv:p.Valid){c x y:Nat→Rat}(h:p.za c x y):p.vv c (bN p.n c x):=
 ⟨⟨x,h.dd,rfl⟩,fun x' tc=>by rw[←h.eq];exact below hv tc h.signed h.iG⟩
theorem afo{r:Int}{x y:Rat}(hx:Bu r x)(hy:Bu r y):Bu r (x+y):=
 ⟨fun e=>by have:=hx.1 e;have:=hy.1 e;grind,fun e=>by have:=hx.2.1 e;have:=hy.2.1 e;grind,fun e=>by have:=hx.2.2 e;have:=hy.2.2 e;grind⟩
theorem afp{r:Int}{x k:Rat}(hx:Bu r x)(hk:0≤k):Bu r (k*x):=
 ⟨fun e=>by have:=hx.1 e;have:0≤k*(-x):=Rat.mul_nonneg hk (by grind)
            grind,fun e=>by have:=hx.2.1 e;rw[this];grind,fun e=>Rat.mul_nonneg hk (hx.2.2 e)⟩
theorem dY.move{t:Rat}{x r:Nat→Rat}(hx:p.dY t x)(hr:p.dY 0 r){k:Rat}(hk:0≤k):p.dY t (fun j=>x j+k*r j):=by
 refine⟨fun j hj hf=> ?_,fun i hi=> ?_⟩
 ·have h1:=hx.1 j hj hf
  have h2:=Rat.mul_nonneg hk (hr.1 j hj hf)
  grind
 ·have h1:=afo (hx.2 i hi) (afp (hr.2 i hi) hk)
  rw[WB,WC]
  have e:bN p.n (p.a i) x-p.b i*t+k*(bN p.n (p.a i) r-p.b i*0)=bN p.n (p.a i) x+k*bN p.n (p.a i) r-p.b i*t:=by grind
  rwa [e]at h1
theorem zc.PO{c x r:Nat→Rat}(h:p.zc c x r):p.zd c:=by
 refine⟨⟨x,h.dd⟩,fun v=> ?_⟩
 have hn:=h.neg
 by_cases hv:bN p.n c x<v
 ·exact⟨x,h.dd,hv⟩
 ·have hd:0 < - bN p.n c r:=by grind
  have hq:0≤(bN p.n c x-v)/(- bN p.n c r):=ar.PF (by grind) hd
  refine⟨_,h.dd.move h.ray (k:=(bN p.n c x-v)/(- bN p.n c r)+1) (by grind),?_⟩
  rw[WB,WC]
  have e:(bN p.n c x-v)/(- bN p.n c r)*(- bN p.n c r)=bN p.n c x-v:=by grind
  grind
theorem afq{c:Nat→Rat}{v:Rat}(h:p.vv c v)(k:p.zd c):False:=by
 obtain⟨x,hx,bL⟩:=k.2 v
 have:=h.2 x hx
 grind
theorem afr{c:Nat→Rat}{v w:Rat}(h:p.vv c v)(k:p.vv c w):v=w:=by
 obtain⟨⟨x,hx,rfl⟩,h2⟩:=h
 obtain⟨⟨y,hy,rfl⟩,k2⟩:=k
 have h3:=h2 y hy
 have h4:=k2 x hx
 grind
end LP
def im(f:Nat→Rat):Option Nat→Rat
 | some k=>f k
 | none=>0
structure dF(p:LP)(A:Nat→Nat→Rat)(w u:Nat)(plus:Nat→Nat)(minus slack:Nat→Option Nat)(unit:Nat→Nat)(sg:Nat→Rat):Prop where
 valid:p.Valid
 uw:u≤w
 WE:∀i,i<p.m→sg i=1∨sg i = -1
 rhs:∀i,i<p.m→A i w=p.b i*sg i∧0≤A i w
 pl:∀j,j<p.n→plus j<u∧∀i,i<p.m→A i (plus j)=p.a i j*sg i
 mi:∀j,j<p.n→(p.free j=false→minus j=none)∧∀k,minus j=some k→k<u∧∀i,i<p.m→A i k = - (p.a i j*sg i)
 PQ:∀j,j<p.n→p.free j=true→∃k,minus j=some k
 sl:∀i,i<p.m→(p.rel i=2→slack i=none)∧(p.rel i≠2→∃k,slack i=some k)∧∀k,slack i=some k→k<u∧∀q,q<p.m→A q k=if q=i then(if p.rel i=1 then sg i else-sg i)else 0
 un:∀i,i<p.m→unit i<w∧∀q,q<p.m→A q (unit i)=if q=i then 1 else 0
 sum:∀f,bB u f=bB p.n (fun j=>f (plus j)+im f (minus j))+bB p.m (fun i=>im f (slack i))
namespace dF
variable {p:LP} {A:Nat→Nat→Rat} {w u:Nat} {plus:Nat→Nat} {minus slack:Nat→Option Nat} {unit:Nat→Nat} {sg:Nat→Rat}
theorem WG{u w:Nat}(h:u≤w)(f:Nat→Rat)(h0:∀j,u≤j→j<w→f j=0):bB w f=bB u f:=by
 induction w with
 | zero=>obtain rfl:u=0:=by omega
         rfl
 | succ w ih=>
  by_cases e:u=w+1
  ·rw[e]
  ·rw[fZ,ih (by omega) (fun j h1 h2=>h0 j h1 (by omega)),h0 w (by omega) (by omega)];grind
def vec(plus:Nat→Nat)(minus:Nat→Option Nat)(z:Nat→Rat)(j:Nat):Rat:=z (plus j)-im z (minus j)
theorem meets(L:dF p A w u plus minus slack unit sg){z:Nat→Rat}{t:Rat}(hs:∀i,i<p.m→bB (w+1) (fun j=>A i j*z j)=0)(hw:z w = - t)
  (hn:∀j,j<u→0≤z j) (ha:∀j,u≤j→j<w→z j=0):p.dY t (vec plus minus z):=by
 refine⟨fun j hj hf=> ?_,fun i hi=> ?_⟩
 ·unfold vec
  rw[(L.mi j hj).1 hf]
  have:=hn _ (L.pl j hj).1
  simp only[im];grind
 ·have h1:=hs i hi
  rw[fZ,hw,WG L.uw _ (fun j h1 h2=>by rw[ha j h1 h2];grind),L.sum]at h1
  have h2:bB p.n (fun j=>A i (plus j)*z (plus j)+im (fun k=>A i k*z k) (minus j))=bN p.n (p.a i) (vec plus minus z)*sg i:=by
   unfold bN
   rw[←vq]
   refine eS fun j hj=> ?_
   rw[(L.pl j hj).2 i hi]
   unfold vec
   cases hm:minus j with
   | none=>simp only[im];grind
   | some k=>
    have:=((L.mi j hj).2 k hm).2 i hi
    simp only[im,this];grind
  rw[h2]at h1
  have h3:bB p.m (fun q=>im (fun k=>A i k*z k) (slack q))=im (fun k=>A i k*z k) (slack i):=by
   refine r6 hi _ fun q hq a7=> ?_
   cases hm:slack q with
   | none=>rfl
   | some k=>
    have:=((L.sl q hq).2.2 k hm).2 i hi
    rw[if_neg (fun e=>a7 e.symm)]at this
    simp only[im,this];grind
  rw[h3,(L.rhs i hi).1]at h1
  have ln:=L.WE i hi
  have eT:=L.sl i hi
  have key:∀s:Rat,bN p.n (p.a i) (vec plus minus z)*sg i+s*sg i+p.b i*sg i * -t=0→bN p.n (p.a i) (vec plus minus z)-p.b i*t = - s:=by
   intro s hs
   rcases ln with e | e <;> rw[e]at hs <;> grind
  rcases L.valid i hi with e | e | e
  ·obtain⟨k,hk⟩:=eT.2.1 (by omega)
   have h4:=eT.2.2 k hk
   have h5:=h4.2 i hi
   rw[if_pos rfl,if_pos e]at h5
   have h6:=hn k h4.1
   rw[hk]at h1
   simp only[im,h5]at h1
   have h7:=key (z k) (by grind)
   exact⟨fun _=>by grind,fun e'=>by omega,fun e'=>by omega⟩
  ·rw[eT.1 e]at h1
   simp only[im]at h1
   have h7:=key 0 (by grind)
   exact⟨fun e'=>by omega,fun _=>by grind,fun e'=>by omega⟩
  ·obtain⟨k,hk⟩:=eT.2.1 (by omega)
   have h4:=eT.2.2 k hk
   have h5:=h4.2 i hi
   rw[if_pos rfl,if_neg (by omega)]at h5
   have h6:=hn k h4.1
   rw[hk]at h1
   simp only[im,h5]at h1
   have h7:=key (- z k) (by grind)
   exact⟨fun e'=>by omega,fun e'=>by omega,fun _=>by grind⟩
def tN(A:Nat→Nat→Rat)(m w:Nat)(c0 c:Nat→Rat):Prop:=∃l:Nat→Rat,∀j,j≤w→c j=c0 j-bB m (fun k=>l k*A k j)
section
variable (L:dF p A w u plus minus slack unit sg) {c0 c:Nat→Rat} (ho:tN A p.m w c0 c)
include L ho
theorem PR:(∀j,j<p.n→p.ka (fun i=>sg i*(c0 (unit i)-c (unit i))) j=c0 (plus j)-c (plus j)∧∀k,minus j=some k→p.ka (fun i=>sg i*(c0 (unit i)-c (unit i))) j=c k-c0 k)
  ∧p.vu (fun i=>sg i*(c0 (unit i)-c (unit i)))=c0 w-c w∧(∀i,i<p.m→∀k,slack i=some k→sg i*(c0 (unit i)-c (unit i))=if p.rel i=1 then c0 k-c k else c k-c0 k):=by
 obtain⟨l,hl⟩:=ho
 have hu:∀i,i<p.m→c0 (unit i)-c (unit i)=l i:=fun i hi=>by
  have h1:=L.un i hi
  rw[hl _ (by omega),r6 hi (fun k=>l k*A k (unit i)) (fun q hq a7=>by rw[h1.2 q hq,if_neg a7];grind),h1.2 i hi,if_pos rfl];grind
 refine⟨fun j hj=>⟨?_,fun k hk=> ?_⟩,?_,fun i hi k hk=> ?_⟩
 ·have h1:=L.pl j hj
  have bL:=L.uw
  rw[hl _ (by omega)]
  unfold LP.ka
  rw[eS (g:=fun k=>l k*A k (plus j)) (fun i hi=>by show sg i*(c0 (unit i)-c (unit i))*_=_;rw[hu i hi,h1.2 i hi];grind)]
  grind
 ·have h1:=(L.mi j hj).2 k hk
  have bL:=L.uw
  rw[hl _ (by omega)]
  unfold LP.ka
  rw[eS (g:=fun q=> - (l q*A q k)) (fun i hi=>by show sg i*(c0 (unit i)-c (unit i))*_=_;rw[hu i hi,h1.2 i hi];grind),Lg]
  grind
 ·rw[hl _ (Nat.le_refl _)]
  unfold LP.vu
  rw[eS (g:=fun k=>l k*A k w) (fun i hi=>by show sg i*(c0 (unit i)-c (unit i))*_=_;rw[hu i hi,(L.rhs i hi).1];grind)]
  grind
 ·have h1:=(L.sl i hi).2.2 k hk
  have bL:=L.uw
  rw[hu i hi,hl k (by omega),r6 hi (fun q=>l q*A q k) (fun q hq a7=>by rw[h1.2 q hq,if_neg a7];grind),h1.2 i hi,if_pos rfl]
  split <;> grind
theorem WH(h0:∀i,i<p.m→∀k,slack i=some k→c0 k=0)(hn:∀j,j<u→0≤c j):p.Signed (fun i=>sg i*(c0 (unit i)-c (unit i))):=fun i hi=>by
 have h1:=(PR L ho).2.2 i hi
 refine⟨fun e=> ?_,fun e=> ?_⟩
 ·obtain⟨k,hk⟩:=(L.sl i hi).2.1 (by omega)
  have h2:=h1 k hk
  have h3:=hn k ((L.sl i hi).2.2 k hk).1
  rw[if_neg (by omega),h0 i hi k hk]at h2
  simp only[h2];grind
 ·obtain⟨k,hk⟩:=(L.sl i hi).2.1 (by omega)
  have h2:=h1 k hk
  have h3:=hn k ((L.sl i hi).2.2 k hk).1
  rw[if_pos e,h0 i hi k hk]at h2
  simp only[h2];grind
theorem afs(h0:∀j,j<u→c0 j=0)(hw:c0 w=0)(hn:∀j,j<u→0≤c j)(gj:c w<0):p.zb (fun i=>sg i*(c0 (unit i)-c (unit i))):=by
 have hd:=PR L ho
 refine⟨WH L ho (fun i hi k hk=>h0 k ((L.sl i hi).2.2 k hk).1) hn,fun j hj=>⟨?_,fun hf=> ?_⟩,?_⟩
 ·have h1:=L.pl j hj
  rw[(hd.1 j hj).1,h0 _ h1.1]
  have:=hn _ h1.1
  grind
 ·obtain⟨k,hk⟩:=L.PQ j hj hf
  have h1:=(L.mi j hj).2 k hk
  rw[(hd.1 j hj).2 k hk,h0 k h1.1]
  have:=hn _ h1.1
  grind
 ·rw[hd.2.1,hw];grind
end
end dF
end Lp
namespace Lp
namespace ar
structure Rows(A:Nat→Nat→Rat)(m' w:Nat)(T:ar):Prop where
 m:T.m=m'
 n:T.n=w
 mul:∃R:Nat→Nat→Rat,∀i,i<m'→∀j,j≤w→T.A i j=bB m' (fun k=>R i k*A k j)
 oh:∀x,T.qc x↔∀i,i<m'→bB (w+1) (fun j=>A i j*x j)=0
section
variable {A:Nat→Nat→Rat} {m w:Nat} {T:ar}
theorem aft(hA:∀i j,T.A i j=A i j)(hm:T.m=m)(hn:T.n=w):Rows A m w T:=by
 refine⟨hm,hn,⟨fun i k=>if k=i then 1 else 0,fun i hi j _=> ?_⟩,fun x=> ?_⟩
 ·rw[r6 hi (fun k=>(if k=i then 1 else 0)*A k j) (fun q _ a7=>by rw[if_neg a7];grind),if_pos rfl,hA];grind
 ·unfold qc
  rw[hm,hn]
  constructor
  ·intro h i hi
   rw[←h i hi]
   exact eS fun j _=>by rw[hA]
  ·intro h i hi
   rw[←h i hi]
   exact eS fun j _=>by rw[hA]
theorem Rows.pivot(h:Rows A m w T){r s:Nat}(hr:r<m)(hp:T.A r s≠0):Rows A m w (T.pivot r s):=by
 obtain⟨R,hR⟩:=h.mul
 refine⟨h.m,h.n,⟨fun i k=>if i=r then R r k/T.A r s else R i k-T.A i s*(R r k/T.A r s),fun i hi j hj=> ?_⟩,fun x=> ?_⟩
 ·have e1:bB m (fun k=>R r k/T.A r s*A k j)=T.A r j/T.A r s:=by
   rw[hR r hr j hj,Rat.div_def,←vq]
   exact eS fun k _=>by grind
  by_cases e:i=r
  ·simp only[ar.pivot,if_pos e]
   exact e1.symm
  ·simp only[ar.pivot,if_neg e]
   rw[←e1,hR i hi j hj,←wU,←GF]
   exact eS fun k _=>by grind
 ·rw[PE (by rw[h.m];exact hr) hp,h.oh]
theorem Rows.off(h:Rows A m w T)(c0 f:Nat→Rat){c:Nat→Rat}(hc:∀j,j≤w→c j=c0 j-bB m (fun i=>f i*T.A i j)):dF.tN A m w c0 c:=by
 obtain⟨R,hR⟩:=h.mul
 refine⟨fun k=>bB m (fun i=>f i*R i k),fun j hj=> ?_⟩
 rw[hc j hj]
 congr 1
 rw[eS (g:=fun i=>bB m (fun k=>f i*R i k*A k j)) (fun i hi=>by rw[hR i hi j hj,←wU];exact eS fun k _=>by grind),Li]
 exact eS fun k _=>vq _ _ _
theorem Rows.PS(h:Rows A m w T){c0:Nat→Rat}(ho:dF.tN A m w c0 T.c){r s:Nat}(hr:r<m):dF.tN A m w c0 (T.pivot r s).c:=by
 obtain⟨R,hR⟩:=h.mul
 obtain⟨l,hl⟩:=ho
 refine⟨fun k=>l k+T.c s*(R r k/T.A r s),fun j hj=> ?_⟩
 show T.c j-T.c s*(T.A r j/T.A r s)=_
 have e1:bB m (fun k=>R r k/T.A r s*A k j)=T.A r j/T.A r s:=by
  rw[hR r hr j hj,Rat.div_def,←vq]
  exact eS fun k _=>by grind
 have e2:bB m (fun k=>(l k+T.c s*(R r k/T.A r s))*A k j)=bB m (fun k=>l k*A k j)+T.c s*bB m (fun k=>R r k/T.A r s*A k j):=by
  rw[←wU,←PD]
  exact eS fun k _=>by grind
 rw[e2,e1,hl j hj]
 grind
theorem Rows.cost(h:Rows A m w T){c0:Nat→Rat}(ho:dF.tN A m w c0 T.c){x:Nat→Rat}(hx:T.qc x):T.cost x=bB (w+1) (fun j=>c0 j*x j):=by
 obtain⟨l,hl⟩:=ho
 unfold ar.cost
 rw[h.n]
 have e1:bB (w+1) (fun j=>bB m (fun k=>l k*A k j)*x j)=0:=by
  rw[eS (g:=fun j=>bB m (fun k=>l k*(A k j*x j))) (fun j _=>by rw[←vq];exact eS fun k _=>by grind),Li]
  refine mP fun k hk=> ?_
  rw[wU,(h.oh x).1 hx k hk];grind
 rw[eS (g:=fun j=>c0 j*x j-bB m (fun k=>l k*A k j)*x j) (fun j hj=>by rw[hl j (by omega)];grind),GF,e1]
 grind
end
def pt(T:ar)(j:Nat):Rat:=if j=T.n then -1 else bB T.m (fun i=>if T.B i=j then T.A i T.n else 0)
section
variable {T:ar}
theorem WI(h:T.WF)(j:Nat):T.pt j = - T.dir T.n j:=by
 unfold pt dir
 by_cases e:j=T.n
 ·rw[if_pos e,if_pos e,mP]
  ·grind
  ·intro i hi
   have:=h.lt i hi
   rw[if_neg (by omega)]
 ·rw[if_neg e,if_neg e];grind
theorem PT(h:T.WF):T.qc T.pt:=fun i hi=>by
 have:=y7 h T.n (Nat.le_refl _) i hi
 rw[eS (g:=fun j=> - (T.A i j*T.dir T.n j)) (fun j _=>by rw[WI h];grind),Lg,this];grind
theorem WJ(h:T.WF):T.cost T.pt = - T.c T.n:=by
 have:=DU h T.n (Nat.le_refl _)
 unfold cost at this⊢
 rw[eS (g:=fun j=> - (T.c j*T.dir T.n j)) (fun j _=>by rw[WI h];grind),Lg,this]
theorem PU(h:T.WF){i:Nat}(hi:i<T.m):T.pt (T.B i)=T.A i T.n:=by
 have:=h.lt i hi
 unfold pt
 rw[if_neg (by omega),r6 hi,if_pos rfl]
 intro k hk a7
 rw[if_neg (fun e=>a7 (h.inj hk hi e))]
theorem WK(hf:T.j8){j:Nat}(hj:j<T.n):0≤T.pt j:=by
 unfold pt
 rw[if_neg (by omega)]
 refine GH fun i hi=> ?_
 split
 ·exact hf i hi
 ·exact Rat.le_refl
theorem PV{j:Nat}(hj:j<T.n)(h:∀i,i<T.m→T.B i=j→T.A i T.n=0):T.pt j=0:=by
 unfold pt
 rw[if_neg (by omega)]
 refine mP fun i hi=> ?_
 split
 ·rename_i e;exact h i hi e
 ·rfl
theorem WL{s:Nat}(h:∀i,i<T.m→T.A i s≤0)(j:Nat):0≤T.dir s j:=by
 unfold dir
 have h1:0≤bB T.m (fun i=> - (if T.B i=j then T.A i s else 0)):=GH fun i hi=>by
  split
  ·have:=h i hi;grind
  ·grind
 rw[Lg]at h1
 split <;> grind
theorem afu(h:T.WF){s:Nat}(hs:s<T.n):T.dir s T.n=0:=by
 unfold dir
 rw[if_neg (by omega),mP]
 ·grind
 ·intro i hi
  have:=h.lt i hi
  rw[if_neg (by omega)]
theorem afv{s j:Nat}(hj:j≠s)(h:∀i,i<T.m→T.B i=j→T.A i s=0):T.dir s j=0:=by
 unfold dir
 rw[if_neg hj,mP]
 ·grind
 ·intro i hi
  split
  ·rename_i e;exact h i hi e
  ·rfl
end
def jG(u w j:Nat):Rat:=if u≤j∧j<w then 1 else 0
theorem WM(u w j:Nat):0≤jG u w j:=by
 unfold jG;split <;> grind
theorem PW{u w j:Nat}(h:j<u):jG u w j=0:=by
 unfold jG;rw[if_neg (by omega)]
theorem WN(u w:Nat):jG u w w=0:=by
 unfold jG;rw[if_neg (by omega)]
section
variable {A:Nat→Nat→Rat} {m w u:Nat} {T:ar}
theorem afw(hW:T.WF)(h:Rows A m w T)(ho:dF.tN A m w (jG u w) T.c){s:Nat}(hs:s<w)(gj:T.c s<0)(hA:∀i,i<T.m→T.A i s≤0):False:=by
 have h1:=DU hW s (by rw[h.n];omega)
 rw[h.cost ho (y7 hW s (by rw[h.n];omega))]at h1
 have h2:0≤bB (w+1) (fun j=>jG u w j*T.dir s j):=GH fun j _=>Rat.mul_nonneg (WM u w j) (WL hA j)
 grind
theorem afx{n k:Nat}(f:Nat→Rat)(h:∀i,i<n→0≤f i)(hk:k<n):f k≤bB n f:=by
 induction n with
 | zero=>omega
 | succ n ih=>
  rw[fZ]
  have h0:=h n (by omega)
  by_cases e:k=n
  ·subst e
   have:0≤bB k f:=GH fun i hi=>h i (by omega)
   grind
  ·have:=ih (fun i hi=>h i (by omega)) (by omega)
   grind
theorem WO(hW:T.WF)(hF:T.j8)(h:Rows A m w T)(ho:dF.tN A m w (jG u w) T.c)(hv:0≤T.c w):T.c w=0∧∀i,i<T.m→u≤T.B i→T.A i T.n=0:=by
 have h1:=WJ hW
 rw[h.cost ho (PT hW),h.n]at h1
 have h0:∀j,j<w+1→0≤jG u w j*T.pt j:=fun j hj=>by
  by_cases e:j=w
  ·subst e;rw[WN];grind
  ·exact Rat.mul_nonneg (WM u w j) (WK hF (by rw[h.n];omega))
 have h2:=GH h0
 refine⟨by grind,fun i hi hu=> ?_⟩
 have bL:=hW.lt i hi
 have h3:=afx _ h0 (k:=T.B i) (by rw[h.n]at bL;omega)
 have WQ:=bL
 rw[h.n]at WQ
 rw[PU hW hi]at h3
 have e:jG u w (T.B i)=1:=by unfold jG;rw[if_pos ⟨hu,WQ⟩]
 rw[e]at h3
 have:=hF i hi
 grind
end
structure Clean(u k:Nat)(T:ar):Prop where
 zero:∀i,i<T.m→u≤T.B i→T.A i T.n=0
 row:∀i,i<k→i<T.m→u≤T.B i→∀j,j<u→T.A i j=0
section
variable {u k:Nat} {T:ar}
theorem Clean.start(h:∀i,i<T.m→u≤T.B i→T.A i T.n=0):Clean u 0 T:=⟨h,fun i hi=>by omega⟩
theorem Clean.skip(h:Clean u k T)(hk:T.B k<u∨∀j,j<u→T.A k j=0):Clean u (k+1) T:=by
 refine⟨h.zero,fun i hi hm hu=> ?_⟩
 by_cases e:i=k
 ·subst e
  rcases hk with hk | hk
  ·omega
  ·exact hk
 ·exact h.row i (by omega) hm hu
theorem Clean.afy(h:Clean u k T)(hk:k<T.m)(hu:u≤T.B k){s:Nat}(hs:s<u):Clean u (k+1) (T.pivot k s):=by
 have hz:=h.zero k hk hu
 refine⟨fun i hi hb=> ?_,fun i hi hm hb j hj=> ?_⟩
 ·have gi:i<T.m:=hi
  simp only[ar.pivot]at hb⊢
  by_cases e:i=k
  ·rw[if_pos e]at hb;omega
  ·rw[if_neg e]at hb⊢
   rw[h.zero i gi hb,hz,Rat.div_def];grind
 ·have bI:i<T.m:=hm
  simp only[ar.pivot]at hb⊢
  by_cases e:i=k
  ·rw[if_pos e]at hb;omega
  ·rw[if_neg e]at hb⊢
   rw[h.row i (by omega) bI hb j hj,h.row i (by omega) bI hb s hs];grind
theorem Clean.dd(h:Clean u k T)(hF:T.j8)(hk:k<T.m)(hu:u≤T.B k)(s:Nat):(T.pivot k s).j8:=fun i hi=>by
 have gi:i<T.m:=hi
 have hz:=h.zero k hk hu
 have h1:=hF i gi
 show 0≤(if i=k then T.A k T.n/T.A k s else T.A i T.n-T.A i s*(T.A k T.n/T.A k s))
 rw[hz]
 split
 ·rw[Rat.div_def];grind
 ·rw[Rat.div_def];grind
theorem Clean.GL(h:Clean u T.m T){r s:Nat}(hb:T.pz u r s):Clean u (T.pivot r s).m (T.pivot r s):=by
 have hr:T.B r<u:=by
  false_or_by_contra
  have:=h.row r hb.rm hb.rm (by omega) s hb.su
  have:=hb.pos
  grind
 have hs:=hb.su
 refine⟨fun i hi hu=> ?_,fun i _ hi hu j hj=> ?_⟩
 ·have gi:i<T.m:=hi
  simp only[ar.pivot]at hu⊢
  by_cases e:i=r
  ·rw[if_pos e]at hu;omega
  ·rw[if_neg e]at hu⊢
   rw[h.zero i gi hu,h.row i gi gi hu s hs];grind
 ·have gi:i<T.m:=hi
  simp only[ar.pivot]at hu⊢
  by_cases e:i=r
  ·rw[if_pos e]at hu;omega
  ·rw[if_neg e]at hu⊢
   rw[h.row i gi gi hu j hj,h.row i gi gi hu s hs];grind
end
structure GM(p:LP)(w:Nat)(plus:Nat→Nat)(minus slack:Nat→Option Nat)(c c0:Nat→Rat):Prop where
 pl:∀j,j<p.n→c0 (plus j)=c j
 mi:∀j,j<p.n→∀k,minus j=some k→c0 k = - c j
 sl:∀i,i<p.m→∀k,slack i=some k→c0 k=0
 last:c0 w=0
section
variable {p:LP} {A:Nat→Nat→Rat} {w u:Nat} {plus:Nat→Nat} {minus slack:Nat→Option Nat} {unit:Nat→Nat} {sg c c0:Nat→Rat} {T:ar}
theorem WR(L:dF p A w u plus minus slack unit sg)(hc:GM p w plus minus slack c c0){z:Nat→Rat}(ha:∀j,u≤j→j<w→z j=0):
  bB (w+1) (fun j=>c0 j*z j)=bN p.n c (dF.vec plus minus z):=by
 rw[fZ,hc.last,dF.WG L.uw _ (fun j h1 h2=>by rw[ha j h1 h2];grind),L.sum]
 have h1:bB p.m (fun i=>im (fun j=>c0 j*z j) (slack i))=0:=mP fun i hi=>by
  cases hs:slack i with
  | none=>rfl
  | some k=>simp only[im];rw[hc.sl i hi k hs];grind
 rw[h1]
 unfold bN dF.vec
 have h2:bB p.n (fun j=>c0 (plus j)*z (plus j)+im (fun j=>c0 j*z j) (minus j))=bB p.n (fun j=>c j*(z (plus j)-im z (minus j))):=eS fun j hj=>by
  rw[hc.pl j hj]
  cases hm:minus j with
  | none=>simp only[im];grind
  | some k=>simp only[im];rw[hc.mi j hj k hm];grind
 rw[h2];grind
theorem WS(hC:Clean u T.m T){j:Nat}(h1:u≤j)(h2:j<T.n):T.pt j=0:=PV h2 fun i hi e=>hC.zero i hi (by omega)
theorem WT(L:dF p A w u plus minus slack unit sg)(hW:T.WF)(hF:T.j8)(h:Rows A p.m w T)(hC:Clean u T.m T):p.dY 1 (dF.vec plus minus T.pt):=by
 have hu:=L.uw
 refine L.meets ((h.oh _).1 (PT hW)) ?_ (fun j hj=>WK hF (by rw[h.n];omega)) (fun j h1 h2=>WS hC h1 (by rw[h.n];omega))
 unfold pt
 rw[if_pos h.n.symm]
theorem WU(L:dF p A w u plus minus slack unit sg)(hW:T.WF)(h:Rows A p.m w T)(hC:Clean u T.m T)(hc:GM p w plus minus slack c c0)(ho:dF.tN A p.m w c0 T.c):
  bN p.n c (dF.vec plus minus T.pt) = - T.c w:=by
 rw[←WR L hc (fun j h1 h2=>WS hC h1 (by rw[h.n];omega)),←h.cost ho (PT hW),WJ hW,h.n]
theorem afz(L:dF p A w u plus minus slack unit sg)(hW:T.WF)(hF:T.j8)(h:Rows A p.m w T)(hC:Clean u T.m T)(hc:GM p w plus minus slack c c0)(ho:dF.tN A p.m w c0 T.c)(hn:∀j,j<u→0≤T.c j):
  p.za c (dF.vec plus minus T.pt) (fun i=>sg i*(c0 (unit i)-T.c (unit i))):=by
 have hd:=dF.PR L ho
 refine⟨WT L hW hF h hC,dF.WH L ho (fun i hi k hk=>hc.sl i hi k hk) hn,fun j hj=>⟨?_,fun hf=> ?_⟩,?_⟩
 ·have h1:=L.pl j hj
  rw[(hd.1 j hj).1,hc.pl j hj]
  have:=hn _ h1.1
  grind
 ·obtain⟨k,hk⟩:=L.PQ j hj hf
  have h1:=(L.mi j hj).2 k hk
  rw[(hd.1 j hj).2 k hk,hc.mi j hj k hk]
  have:=hn _ h1.1
  grind
 ·rw[hd.2.1,hc.last,WU L hW h hC hc ho];grind
theorem afA(L:dF p A w u plus minus slack unit sg)(hW:T.WF)(hF:T.j8)(h:Rows A p.m w T)(hC:Clean u T.m T)(hc:GM p w plus minus slack c c0)(ho:dF.tN A p.m w c0 T.c){s:Nat}(hs:s<u)(gj:T.c s<0)
  (hA:∀i,i<T.m→T.A i s≤0):p.zc c (dF.vec plus minus T.pt) (dF.vec plus minus (T.dir s)):=by
 have hu:=L.uw
 have mQ:s<T.n:=by rw[h.n];omega
 have ha:∀j,u≤j→j<w→T.dir s j=0:=fun j h1 h2=>afv (by omega) fun i hi e=>hC.row i hi hi (by omega) s hs
 refine⟨WT L hW hF h hC,L.meets ((h.oh _).1 (y7 hW s (by omega))) ?_ (fun j _=>WL hA j) ha,?_⟩
 ·have:=afu hW mQ
  rw[h.n]at this
  rw[this];grind
 ·rw[←WR L hc ha,←h.cost ho (y7 hW s (by omega)),DU hW s (by omega)]
  exact gj
end
end ar
end Lp
namespace Lp
structure Prg where
 free:List Bool
 rows:List (List Rat×Int×Rat)
def fn(l:List Rat)(j:Nat):Rat:=l.getD j 0
theorem mb{l:List Rat}{j:Nat}{q:Rat}(h:l[j]? = some q):fn l j=q:=by simp[fn,List.getD,h]
theorem afB{l:List Rat}{j:Nat}(h:l.length≤j):fn l j=0:=by simp[fn,List.getD,List.getElem?_eq_none h]
def Prg.row(p:Prg)(i:Nat):List Rat×Int×Rat:=p.rows.getD i ([],0,0)
theorem Prg.mc{p:Prg}{i:Nat}{r:List Rat×Int×Rat}(h:p.rows[i]? = some r):p.row i=r:=by simp[Prg.row,List.getD,h]
def Prg.lp(p:Prg):LP:=⟨p.free.length,p.rows.length,fun j=>p.free.getD j false,fun i j=>fn (p.row i).1 j,fun i=>(p.row i).2.1,fun i=>(p.row i).2.2⟩
theorem Prg.Bv{p:Prg}{j:Nat}{b:Bool}(h:p.free[j]? = some b):p.lp.free j=b:=by simp[Prg.lp,List.getD,h]
def PX(n:Nat)(r:List Rat×Int×Rat):Prop:=r.1.length=n∧(r.2.1=1∨r.2.1=2∨r.2.1=3)
structure Prg.Ok(p:Prg):Prop where
 iG:p.free.length≤400
 rows:p.rows.length≤800
 row:∀(i:Nat)(r:List Rat×Int×Rat),p.rows[i]? = some r→PX p.free.length r
theorem Prg.Ok.valid{p:Prg}(h:p.Ok):p.lp.Valid:=fun i hi=>by
 have gi:i<p.rows.length:=hi
 have:=(h.row i _ (List.getElem?_eq_getElem gi)).2
 show (p.row i).2.1=1∨(p.row i).2.1=2∨(p.row i).2.1=3
 rwa [Prg.mc (List.getElem?_eq_getElem gi)]
structure GN(p:Prg)(x:List Rat):Prop where
 ok:p.Ok
 len:x.length=p.free.length
 meets:p.lp.dY 1 (fn x)
structure DX(p:Prg)(c x y:List Rat):Prop where
 dd:GN p x
 Ln:c.length=p.free.length
 Lo:y.length=p.rows.length
 cert:p.lp.za (fn c) (fn x) (fn y)
structure Lq(p:Prg)(y:List Rat):Prop where
 ok:p.Ok
 Lo:y.length=p.rows.length
 cert:p.lp.zb (fn y)
structure Lr(p:Prg)(c x r:List Rat):Prop where
 dd:GN p x
 Ln:c.length=p.free.length
 iH:r.length=p.free.length
 cert:p.lp.zc (fn c) (fn x) (fn r)
structure qP where
 status:Int
 value:Rat
 x:List Rat
 jq:List Rat
 ray:List Rat
def r7(p:Prg)(c:List Rat)(s:qP):Prop:=
 (s.status=1∧s.ray = []∧DX p c s.x s.jq∧s.value=bN p.free.length (fn c) (fn s.x))∨
 (s.status=2∧s.value=0∧s.x = []∧s.ray = []∧c.length=p.free.length∧Lq p s.jq)∨
 (s.status=3∧s.value=0∧s.jq = []∧Lr p c s.x s.ray)
theorem r7.GO{p:Prg}{c:List Rat}{s:qP}(h:r7 p c s):(s.status=1∧p.lp.vv (fn c) s.value)∨(s.status=2∧p.lp.wX∧s.value=0)∨(s.status=3∧p.lp.zd (fn c)∧s.value=0):=by
 rcases h with ⟨h1,_,h2,h3⟩ | ⟨h1,h2,_,_,_,h3⟩ | ⟨h1,h2,_,h3⟩
 ·exact .inl ⟨h1,by rw[h3];exact h2.cert.Lm h2.dd.ok.valid⟩
 ·exact .inr (.inl ⟨h1,h3.cert.isInf h3.ok.valid,h2⟩)
 ·exact .inr (.inr ⟨h1,h3.cert.PO,h2⟩)
theorem r7.Ls{p:Prg}{c:List Rat}{S:qP}(h:r7 p c S)(e:S.status=1):S.ray = []∧DX p c S.x S.jq∧S.value=bN p.free.length (fn c) (fn S.x):=by
 rcases h with ⟨_,h⟩ | ⟨h1,_⟩ | ⟨h1,_⟩
 ·exact h
 ·omega
 ·omega
theorem r7.WV{p:Prg}{c:List Rat}{S:qP}(h:r7 p c S)(e:S.status=2):S.value=0∧S.x = []∧S.ray = []∧c.length=p.free.length∧Lq p S.jq:=by
 rcases h with ⟨h1,_⟩ | ⟨_,h⟩ | ⟨h1,_⟩
 ·omega
 ·exact h
 ·omega
theorem r7.at3{p:Prg}{c:List Rat}{S:qP}(h:r7 p c S)(e:S.status=3):S.value=0∧S.jq = []∧Lr p c S.x S.ray:=by
 rcases h with ⟨h1,_⟩ | ⟨h1,_⟩ | ⟨_,h⟩
 ·omega
 ·omega
 ·exact h
end Lp
namespace Go.aw
open Go.Proofs Num
theorem afC(p q:Rat):((p.num*(q.den:Int)+q.num*(p.den:Int):Int):Rat)/(((p.den:Int)*(q.den:Int):Int):Rat)=p+q:=by
 have h1:=tE p
 have h2:=tE q
 have h3:=DR p
 have h4:=DR q
 rw[Rat.intCast_add,Rat.intCast_mul,Rat.intCast_mul,Rat.intCast_mul]
 grind
theorem afD(p q:Rat):((p.num*q.num:Int):Rat)/(((p.den:Int)*(q.den:Int):Int):Rat)=p*q:=by
 have h1:=tE p
 have h2:=tE q
 have h3:=DR p
 have h4:=DR q
 rw[Rat.intCast_mul,Rat.intCast_mul]
 grind
theorem afE{q:Rat}(h:q≠0):((q.num:Int):Rat)≠0:=fun e=>h (by
 have:q.num=0:=by exact_mod_cast e
 exact Rat.num_eq_zero.1 this)
theorem WW(p:Rat){q:Rat}(h:q≠0):((p.num*(q.den:Int):Int):Rat)/(((p.den:Int)*q.num:Int):Rat)=p/q:=by
 have h1:=tE p
 have h2:=tE q
 have h3:=DR p
 have h4:=DR q
 have h5:=afE h
 rw[Rat.intCast_mul,Rat.intCast_mul]
 grind
theorem afF(p:Rat){q:Rat}(h:q≠0):((-p.num*(q.den:Int):Int):Rat)/((-(p.den:Int)*q.num:Int):Rat)=p/q:=by
 rw[←WW p h,Int.neg_mul,Int.neg_mul,Rat.intCast_neg,Rat.intCast_neg]
 grind
theorem afG{H:Heap}{us vs:List Value}{p q:Rat}{N:Nat}(hu:bS H us p)(hv:bS H vs q)(h1:aP p≤N)(h2:aP q≤N)(hN:(N:Int)≤1099511627776):
 Fn Tryz.prog 183 #[.agg us.toArray,.agg vs.toArray] H (tB H (p+q)):=by
 obtain⟨n1,d1,b1,rfl,fa⟩:=id hu
 obtain⟨n2,d2,b2,rfl,bU⟩:=id hv;refine aZ (args:=[_,_]) Tryz.func183 rfl rfl Tryz.ntmps183 rfl rfl fun w0=> ?_;refine aj [0,1] rfl ?_;refine ag (bW rfl rfl (bW rfl rfl (bn fk rfl (ae [2,3,4] ?_))));refine aq ?_
 cases nB:wT n1 d1 b1
 ·
  skip
  refine ag (ab 1 rfl (aF rfl rfl (py) ?_));rintro v1 H1 ⟨e1,rfl⟩;rw[e1,nB];refine ab 4 rfl (ae [2,3,4,10] ?_);refine dR rfl (aA (aj [2,3,4] rfl ?_));refine bP .bJ [0,2,1,3,4,5,6] follows (by kernel_rfl) ?_;refine ab 2 rfl (a8 rfl rfl (rZ hu) (fun _ _ h=>by first | exact h.le | exact h.1) ?_);rintro w1 G1 ⟨fw,cC⟩;obtain⟨u1,x1,rfl,eO,eP⟩:=id cC;obtain⟨mK,mL,rfl,mM,mN⟩:=id eO;obtain⟨tF,tG,rfl,tH,tI⟩:=id eP;refine a8 rfl rfl (rZ (hv.le fw)) (fun _ _ h=>by first | exact h.le | exact h.1) ?_;rintro w2 G2 ⟨dT,bO⟩;obtain⟨u2,x2,rfl,fR,eR⟩:=id bO;obtain⟨pd,pe,rfl,pf,pg⟩:=id fR;obtain⟨ph,pj,rfl,po,px⟩:=id eR;refine a8 rfl rfl (Wh (N:=N) ((cC.le dT).raw.mono h1) (bO.raw.mono h2) hN) (fun _ _ h=>by first | exact h.le | exact h.1) ?_;rintro w3 G3 ⟨qQ,iN⟩;obtain⟨u3,x3,rfl,pA,gD⟩:=id iN;obtain⟨Bw,Bx,rfl,By,Bz⟩:=id pA;obtain⟨BA,BB,rfl,BC,BD⟩:=id gD;refine a8 rfl rfl (y6 iN) (fun _ _ h=>by first | exact h.le | exact h.1) ?_;rintro w4 G4 ⟨ll,GP,rfl,cI⟩;obtain⟨n4,d4,b4,rfl,_⟩:=id cI;obtain⟨ti,ak,al⟩:=cJ;refine aI (.inl ⟨rfl,rfl⟩) rfl rfl rfl ak al rfl rfl rfl (ae [4] ?_);obtain⟨bQ,aN,aO⟩:=cJ;refine aE ⟨.inr rfl,_,.agg rfl Tryz.underlying90 aN aO (.nil),?_⟩
  exact⟨((fw.trans dT).trans qQ).trans ll,_,rfl,cI⟩
 ·
  skip
  cases qe:wT n2 d2 b2
  ·
   skip
   refine ag (ab 1 rfl (aF rfl rfl (py) ?_));rintro v1 H1 ⟨e1,rfl⟩;rw[e1,nB];refine ab 2 rfl (aF rfl rfl (py) ?_);rintro v1 H1 ⟨e1,rfl⟩;rw[e1,qe];refine ab 1 rfl (ae [2,3,4,10] ?_);refine dR rfl (aA (aj [2,3,4] rfl ?_));refine bP .bJ [0,2,1,3,4,5,6] follows (by kernel_rfl) ?_;refine ab 2 rfl (a8 rfl rfl (rZ hu) (fun _ _ h=>by first | exact h.le | exact h.1) ?_);rintro w1 G1 ⟨fw,cC⟩;obtain⟨u1,x1,rfl,eO,eP⟩:=id cC;obtain⟨mK,mL,rfl,mM,mN⟩:=id eO;obtain⟨tF,tG,rfl,tH,tI⟩:=id eP;refine a8 rfl rfl (rZ (hv.le fw)) (fun _ _ h=>by first | exact h.le | exact h.1) ?_;rintro w2 G2 ⟨dT,bO⟩;obtain⟨u2,x2,rfl,fR,eR⟩:=id bO;obtain⟨pd,pe,rfl,pf,pg⟩:=id fR;obtain⟨ph,pj,rfl,po,px⟩:=id eR;refine a8 rfl rfl (Wh (N:=N) ((cC.le dT).raw.mono h1) (bO.raw.mono h2) hN) (fun _ _ h=>by first | exact h.le | exact h.1) ?_;rintro w3 G3 ⟨qQ,iN⟩;obtain⟨u3,x3,rfl,pA,gD⟩:=id iN;obtain⟨Bw,Bx,rfl,By,Bz⟩:=id pA;obtain⟨BA,BB,rfl,BC,BD⟩:=id gD;refine a8 rfl rfl (y6 iN) (fun _ _ h=>by first | exact h.le | exact h.1) ?_;rintro w4 G4 ⟨ll,GP,rfl,cI⟩;obtain⟨n4,d4,b4,rfl,_⟩:=id cI;obtain⟨ti,ak,al⟩:=cJ;refine aI (.inl ⟨rfl,rfl⟩) rfl rfl rfl ak al rfl rfl rfl ?_
   refine ae [4] ?_;obtain⟨bQ,aN,aO⟩:=cJ;refine aE ⟨.inr rfl,_,.agg rfl Tryz.underlying90 aN aO (.nil),?_⟩;exact⟨((fw.trans dT).trans qQ).trans ll,_,rfl,cI⟩
  obtain⟨rfl,k1,k2,k3⟩:=Bp.1 nB;obtain⟨rfl,k4,k5,k6⟩:=Bp.1 qe;obtain⟨-,rfl,rfl,-⟩:=fa.resolve_right (by rintro⟨ad,f,u,w,h,_⟩;cases h);obtain⟨-,rfl,rfl,-⟩:=bU.resolve_right (by rintro⟨ad,f,u,w,h,_⟩;cases h);have fH:=den_pos p;have ee:=den_pos q;have m1:=Bm (a:=p.num) (b:=q.den) k1 k2 (by omega) k6;have m2:=Bm (a:=q.num) (b:=p.den) k4 k5 (by omega) k3;have m3:=Bm (a:=p.den) (b:=q.den) (by omega) k3 (by omega) k6;have m4:0<(p.den:Int)*(q.den:Int):=Int.mul_pos (by omega) (by omega);refine ag (ab 1 rfl (aF rfl rfl (py) ?_));rintro v1 H1 ⟨e1,rfl⟩;rw[e1,nB];refine ab 2 rfl (aF rfl rfl (py) ?_);rintro v1 H1 ⟨e1,rfl⟩;rw[e1,qe];refine ab 1 rfl (ae [2,3,4,10] ?_);refine dJ rfl (ag (ab 4 rfl (gW rfl rfl ⟨by omega,by omega⟩ (ab 4 rfl (gW rfl rfl ⟨by omega,by omega⟩ (aH rfl rfl ⟨by omega,by omega⟩ (ab 4 rfl (gW rfl rfl ⟨by omega,by omega⟩ (aF rfl rfl (Lf (by omega) (by omega) m4 (by omega)) ?_)))))))));rintro w1 G1 ⟨fw,GQ,rfl,cC⟩;rw[afC]at cC;obtain⟨n1,d1,b1,rfl,_⟩:=id cC;obtain⟨ti,ak,al⟩:=cJ;refine aI (.inl ⟨rfl,rfl⟩) rfl rfl rfl ak al rfl rfl rfl (ae [4] ?_)
  obtain⟨bQ,aN,aO⟩:=cJ;refine aE ⟨.inr rfl,_,.agg rfl Tryz.underlying90 aN aO (.nil),?_⟩;exact⟨fw,_,rfl,cC⟩
theorem GR{H:Heap}{us vs:List Value}{p q:Rat}{N:Nat}(hu:bS H us p)(hv:bS H vs q)(h1:aP p≤N)(h2:aP q≤N)(hN:(N:Int)≤1099511627776):
 Fn Tryz.prog 128 #[.agg us.toArray,.agg vs.toArray] H (tB H (p*q)):=by
 obtain⟨n1,d1,b1,rfl,fa⟩:=id hu
 obtain⟨n2,d2,b2,rfl,bU⟩:=id hv;refine aZ (args:=[_,_]) Tryz.func128 rfl rfl Tryz.ntmps128 rfl rfl fun w0=> ?_;refine aj [0,1] rfl ?_;refine ag (bW rfl rfl (bW rfl rfl (bn fk rfl (ae [2,3,4] ?_))));refine aq ?_
 cases nB:wT n1 d1 b1
 ·
  skip
  refine ag (ab 1 rfl (aF rfl rfl (py) ?_));rintro v1 H1 ⟨e1,rfl⟩;rw[e1,nB];refine ab 4 rfl (ae [2,3,4,10] ?_);refine dR rfl (aA (aj [2,3,4] rfl ?_));refine bP .bJ [0,2,1,3,4,5,6] follows (by kernel_rfl) ?_;refine ab 2 rfl (a8 rfl rfl (rZ hu) (fun _ _ h=>by first | exact h.le | exact h.1) ?_);rintro w1 G1 ⟨fw,cC⟩;obtain⟨u1,x1,rfl,eO,eP⟩:=id cC;obtain⟨mK,mL,rfl,mM,mN⟩:=id eO;obtain⟨tF,tG,rfl,tH,tI⟩:=id eP;refine a8 rfl rfl (rZ (hv.le fw)) (fun _ _ h=>by first | exact h.le | exact h.1) ?_;rintro w2 G2 ⟨dT,bO⟩;obtain⟨u2,x2,rfl,fR,eR⟩:=id bO;obtain⟨pd,pe,rfl,pf,pg⟩:=id fR;obtain⟨ph,pj,rfl,po,px⟩:=id eR;refine a8 rfl rfl (Pv (N:=N) ((cC.le dT).raw.mono h1) (bO.raw.mono h2) hN) (fun _ _ h=>by first | exact h.le | exact h.1) ?_;rintro w3 G3 ⟨qQ,iN⟩;obtain⟨u3,x3,rfl,pA,gD⟩:=id iN;obtain⟨Bw,Bx,rfl,By,Bz⟩:=id pA;obtain⟨BA,BB,rfl,BC,BD⟩:=id gD;refine a8 rfl rfl (y6 iN) (fun _ _ h=>by first | exact h.le | exact h.1) ?_;rintro w4 G4 ⟨ll,GP,rfl,cI⟩;obtain⟨n4,d4,b4,rfl,_⟩:=id cI;obtain⟨ti,ak,al⟩:=cJ;refine aI (.inl ⟨rfl,rfl⟩) rfl rfl rfl ak al rfl rfl rfl (ae [4] ?_);obtain⟨bQ,aN,aO⟩:=cJ;refine aE ⟨.inr rfl,_,.agg rfl Tryz.underlying90 aN aO (.nil),?_⟩
  exact⟨((fw.trans dT).trans qQ).trans ll,_,rfl,cI⟩
 ·
  skip
  cases qe:wT n2 d2 b2
  ·
   skip
   refine ag (ab 1 rfl (aF rfl rfl (py) ?_));rintro v1 H1 ⟨e1,rfl⟩;rw[e1,nB];refine ab 2 rfl (aF rfl rfl (py) ?_);rintro v1 H1 ⟨e1,rfl⟩;rw[e1,qe];refine ab 1 rfl (ae [2,3,4,10] ?_);refine dR rfl (aA (aj [2,3,4] rfl ?_));refine bP .bJ [0,2,1,3,4,5,6] follows (by kernel_rfl) ?_;refine ab 2 rfl (a8 rfl rfl (rZ hu) (fun _ _ h=>by first | exact h.le | exact h.1) ?_);rintro w1 G1 ⟨fw,cC⟩;obtain⟨u1,x1,rfl,eO,eP⟩:=id cC;obtain⟨mK,mL,rfl,mM,mN⟩:=id eO;obtain⟨tF,tG,rfl,tH,tI⟩:=id eP;refine a8 rfl rfl (rZ (hv.le fw)) (fun _ _ h=>by first | exact h.le | exact h.1) ?_;rintro w2 G2 ⟨dT,bO⟩;obtain⟨u2,x2,rfl,fR,eR⟩:=id bO;obtain⟨pd,pe,rfl,pf,pg⟩:=id fR;obtain⟨ph,pj,rfl,po,px⟩:=id eR;refine a8 rfl rfl (Pv (N:=N) ((cC.le dT).raw.mono h1) (bO.raw.mono h2) hN) (fun _ _ h=>by first | exact h.le | exact h.1) ?_;rintro w3 G3 ⟨qQ,iN⟩;obtain⟨u3,x3,rfl,pA,gD⟩:=id iN;obtain⟨Bw,Bx,rfl,By,Bz⟩:=id pA;obtain⟨BA,BB,rfl,BC,BD⟩:=id gD;refine a8 rfl rfl (y6 iN) (fun _ _ h=>by first | exact h.le | exact h.1) ?_;rintro w4 G4 ⟨ll,GP,rfl,cI⟩;obtain⟨n4,d4,b4,rfl,_⟩:=id cI;obtain⟨ti,ak,al⟩:=cJ;refine aI (.inl ⟨rfl,rfl⟩) rfl rfl rfl ak al rfl rfl rfl ?_
   refine ae [4] ?_;obtain⟨bQ,aN,aO⟩:=cJ;refine aE ⟨.inr rfl,_,.agg rfl Tryz.underlying90 aN aO (.nil),?_⟩;exact⟨((fw.trans dT).trans qQ).trans ll,_,rfl,cI⟩
  obtain⟨rfl,k1,k2,k3⟩:=Bp.1 nB;obtain⟨rfl,k4,k5,k6⟩:=Bp.1 qe;obtain⟨-,rfl,rfl,-⟩:=fa.resolve_right (by rintro⟨ad,f,u,w,h,_⟩;cases h);obtain⟨-,rfl,rfl,-⟩:=bU.resolve_right (by rintro⟨ad,f,u,w,h,_⟩;cases h);have fH:=den_pos p;have ee:=den_pos q;have m1:=Bm (a:=p.num) (b:=q.num) k1 k2 k4 k5;have m3:=Bm (a:=p.den) (b:=q.den) (by omega) k3 (by omega) k6;have m4:0<(p.den:Int)*(q.den:Int):=Int.mul_pos (by omega) (by omega);refine ag (ab 1 rfl (aF rfl rfl (py) ?_));rintro v1 H1 ⟨e1,rfl⟩;rw[e1,nB];refine ab 2 rfl (aF rfl rfl (py) ?_);rintro v1 H1 ⟨e1,rfl⟩;rw[e1,qe];refine ab 1 rfl (ae [2,3,4,10] ?_);refine dJ rfl (ag (ab 4 rfl (gW rfl rfl ⟨by omega,by omega⟩ (ab 4 rfl (gW rfl rfl ⟨by omega,by omega⟩ (aF rfl rfl (Lf (by omega) (by omega) m4 (by omega)) ?_))))));rintro w1 G1 ⟨fw,GQ,rfl,cC⟩;rw[afD]at cC;obtain⟨n1,d1,b1,rfl,_⟩:=id cC;obtain⟨ti,ak,al⟩:=cJ;refine aI (.inl ⟨rfl,rfl⟩) rfl rfl rfl ak al rfl rfl rfl (ae [4] ?_);obtain⟨bQ,aN,aO⟩:=cJ;refine aE ⟨.inr rfl,_,.agg rfl Tryz.underlying90 aN aO (.nil),?_⟩;exact⟨fw,_,rfl,cC⟩
theorem DY{H:Heap}{us vs:List Value}{p q:Rat}{N:Nat}(hu:bS H us p)(hv:bS H vs q)(h1:aP p≤N)(h2:aP q≤N)(hN:(N:Int)≤1099511627776):
 Fn Tryz.prog 119 #[.agg us.toArray,.agg vs.toArray] H (tB H (p-q)):=by
 obtain⟨n1,d1,b1,rfl,fa⟩:=id hu
 obtain⟨n2,d2,b2,rfl,bU⟩:=id hv
 have mQ:=wQ q;refine aZ (args:=[_,_]) Tryz.func119 rfl rfl Tryz.ntmps119 rfl rfl fun w0=> ?_;refine aj [0,1] rfl ?_;refine ag (bW rfl rfl (bW rfl rfl (bn fk rfl (ae [2,3,4] ?_))));refine bP .bJ [0,1,2,3,4] follows (by kernel_rfl) ?_;refine ab 2 rfl (a8 rfl rfl (DS hv (by omega)) (fun _ _ h=>by first | exact h.le | exact h.1) ?_);rintro w1 G1 ⟨fw,GQ,rfl,cC⟩;obtain⟨n1,d1,b1,rfl,_⟩:=id cC;refine a8 rfl rfl (afG (hu.le fw) cC h1 (by omega) hN) (fun _ _ h=>by first | exact h.le | exact h.1) ?_;rintro w2 G2 ⟨dT,PC,rfl,bO⟩;rw[←Rat.sub_eq_add_neg]at bO;obtain⟨n2,d2,b2,rfl,_⟩:=id bO;obtain⟨ti,ak,al⟩:=cJ;refine aI (.inl ⟨rfl,rfl⟩) rfl rfl rfl ak al rfl rfl rfl (ae [4] ?_);obtain⟨bQ,aN,aO⟩:=cJ;refine aE ⟨.inr rfl,_,.agg rfl Tryz.underlying90 aN aO (.nil),?_⟩;exact⟨fw.trans dT,_,rfl,bO⟩
theorem WX{H:Heap}{us vs:List Value}{p q:Rat}{N:Nat}(hu:bS H us p)(hv:bS H vs q)(h1:aP p≤N)(h2:aP q≤N)(hN:(N:Int)≤1099511627776)(hq:q≠0):
 Fn Tryz.prog 126 #[.agg us.toArray,.agg vs.toArray] H (tB H (p/q)):=by
 obtain⟨n1,d1,b1,rfl,fa⟩:=id hu
 obtain⟨n2,d2,b2,rfl,bU⟩:=id hv;refine aZ (args:=[_,_]) Tryz.func126 rfl rfl Tryz.ntmps126 rfl rfl fun w0=> ?_;refine aj [0,1] rfl ?_;refine ag (bW rfl rfl (bW rfl rfl (bn fk rfl (ae [2,3,4] ?_))));refine aq ?_
 cases nB:wT n1 d1 b1
 ·
  skip
  refine ag (ab 1 rfl (aF rfl rfl (py) ?_));rintro v1 H1 ⟨e1,rfl⟩;rw[e1,nB];refine ab 4 rfl (ae [2,3,4,12] ?_);refine dR rfl (aA (aj [2,3,4] rfl ?_));refine bP .bJ [0,2,1,3,4,5,6,7,8,9,10] follows (by kernel_rfl) ?_;refine ab 2 rfl (a8 rfl rfl (rZ hu) (fun _ _ h=>by first | exact h.le | exact h.1) ?_);rintro w1 G1 ⟨fw,cC⟩;obtain⟨u1,x1,rfl,eO,eP⟩:=id cC;obtain⟨mK,mL,rfl,mM,mN⟩:=id eO;obtain⟨tF,tG,rfl,tH,tI⟩:=id eP;refine a8 rfl rfl (rZ (hv.le fw)) (fun _ _ h=>by first | exact h.le | exact h.1) ?_;rintro w2 G2 ⟨dT,bO⟩;obtain⟨u2,x2,rfl,fR,eR⟩:=id bO;obtain⟨pd,pe,rfl,pf,pg⟩:=id fR;obtain⟨ph,pj,rfl,po,px⟩:=id eR;refine a8 rfl rfl (Wi (N:=N) ((cC.le dT).raw.mono h1) (bO.raw.mono h2) hN) (fun _ _ h=>by first | exact h.le | exact h.1) ?_;rintro w3 G3 ⟨qQ,r3,rfl,iN⟩;obtain⟨u3,x3,rfl,pA,gD⟩:=id iN;obtain⟨Bw,Bx,rfl,By,Bz⟩:=id pA;obtain⟨BA,BB,rfl,BC,BD⟩:=id gD;refine ab 3 rfl (bn bZ rfl ?_);obtain⟨ti,ak,al⟩:=a6;refine aI (.inl ⟨rfl,rfl⟩) rfl rfl rfl ak al rfl rfl rfl (ab 1 rfl (ae [4,5] ?_));refine ag (ab 1 rfl (aF rfl rfl (y6 iN) ?_))
  rintro w4 G4 ⟨ll,GP,rfl,cI⟩;obtain⟨n4,d4,b4,rfl,_⟩:=id cI;obtain⟨ti,ak,al⟩:=cJ;refine aI (.inl ⟨rfl,rfl⟩) rfl rfl rfl ak al rfl rfl rfl (ae [4] ?_);obtain⟨bQ,aN,aO⟩:=cJ;refine aE ⟨.inr rfl,_,.agg rfl Tryz.underlying90 aN aO (.nil),?_⟩;exact⟨((fw.trans dT).trans qQ).trans ll,_,rfl,cI⟩
 ·
  skip
  cases qe:wT n2 d2 b2
  ·
   skip
   refine ag (ab 1 rfl (aF rfl rfl (py) ?_));rintro v1 H1 ⟨e1,rfl⟩;rw[e1,nB];refine ab 2 rfl (aF rfl rfl (py) ?_);rintro v1 H1 ⟨e1,rfl⟩;rw[e1,qe];refine ab 1 rfl (ae [2,3,4,12] ?_);refine dR rfl (aA (aj [2,3,4] rfl ?_));refine bP .bJ [0,2,1,3,4,5,6,7,8,9,10] follows (by kernel_rfl) ?_;refine ab 2 rfl (a8 rfl rfl (rZ hu) (fun _ _ h=>by first | exact h.le | exact h.1) ?_);rintro w1 G1 ⟨fw,cC⟩;obtain⟨u1,x1,rfl,eO,eP⟩:=id cC;obtain⟨mK,mL,rfl,mM,mN⟩:=id eO;obtain⟨tF,tG,rfl,tH,tI⟩:=id eP;refine a8 rfl rfl (rZ (hv.le fw)) (fun _ _ h=>by first | exact h.le | exact h.1) ?_;rintro w2 G2 ⟨dT,bO⟩;obtain⟨u2,x2,rfl,fR,eR⟩:=id bO;obtain⟨pd,pe,rfl,pf,pg⟩:=id fR;obtain⟨ph,pj,rfl,po,px⟩:=id eR;refine a8 rfl rfl (Wi (N:=N) ((cC.le dT).raw.mono h1) (bO.raw.mono h2) hN) (fun _ _ h=>by first | exact h.le | exact h.1) ?_;rintro w3 G3 ⟨qQ,r3,rfl,iN⟩;obtain⟨u3,x3,rfl,pA,gD⟩:=id iN;obtain⟨Bw,Bx,rfl,By,Bz⟩:=id pA;obtain⟨BA,BB,rfl,BC,BD⟩:=id gD;refine ab 3 rfl (bn bZ rfl ?_);obtain⟨ti,ak,al⟩:=a6;refine aI (.inl ⟨rfl,rfl⟩) rfl rfl rfl ak al rfl rfl rfl (vr 1 ?_)
   refine ae [4,5] ?_;refine ag (ab 1 rfl (aF rfl rfl (y6 iN) ?_));rintro w4 G4 ⟨ll,GP,rfl,cI⟩;obtain⟨n4,d4,b4,rfl,_⟩:=id cI;obtain⟨ti,ak,al⟩:=cJ;refine aI (.inl ⟨rfl,rfl⟩) rfl rfl rfl ak al rfl rfl rfl (ae [4] ?_);obtain⟨bQ,aN,aO⟩:=cJ;refine aE ⟨.inr rfl,_,.agg rfl Tryz.underlying90 aN aO (.nil),?_⟩;exact⟨((fw.trans dT).trans qQ).trans ll,_,rfl,cI⟩
  obtain⟨rfl,k1,k2,k3⟩:=Bp.1 nB;obtain⟨rfl,k4,k5,k6⟩:=Bp.1 qe;obtain⟨-,rfl,rfl,-⟩:=fa.resolve_right (by rintro⟨ad,f,u,w,h,_⟩;cases h);obtain⟨-,rfl,rfl,-⟩:=bU.resolve_right (by rintro⟨ad,f,u,w,h,_⟩;cases h);have fH:=den_pos p;have ee:=den_pos q;have hqn:q.num≠0:=fun e=>hq (Rat.num_eq_zero.1 e);have m1:=Bm (a:=p.num) (b:=q.den) k1 k2 (by omega) k6;have m3:=Bm (a:=p.den) (b:=q.num) (by omega) k3 k4 k5;refine ag (ab 1 rfl (aF rfl rfl (py) ?_));rintro v1 H1 ⟨e1,rfl⟩;rw[e1,nB];refine ab 2 rfl (aF rfl rfl (py) ?_);rintro v1 H1 ⟨e1,rfl⟩;rw[e1,qe];refine ab 1 rfl (ae [2,3,4,12] ?_);refine dJ rfl (aq (ag (ab 3 rfl (ae [2,3,4,15] ?_))));refine aD rfl (fun hb=> ?_) (fun hb=> ?_)
  ·
   have hb:q.num<0:=by simpa using hb
   have m4:0 < -(p.den:Int)*q.num:=by rw[Int.neg_mul,←Int.mul_neg];exact Int.mul_pos (by omega) (by omega)
   have e1: -p.num*(q.den:Int) = -(p.num*(q.den:Int)):=Int.neg_mul _ _;have e2: -(p.den:Int)*q.num = -((p.den:Int)*q.num):=Int.neg_mul _ _;refine ag (ab 2 rfl (tl rfl ⟨by omega,by omega⟩ (ab 2 rfl (gW rfl rfl ⟨by omega,by omega⟩ (ab 2 rfl (tl rfl ⟨by omega,by omega⟩ (ab 2 rfl (gW rfl rfl ⟨by omega,by omega⟩ (aF rfl rfl (Lf (by omega) (by omega) m4 (by omega)) ?_)))))))));rintro w1 G1 ⟨fw,GQ,rfl,cC⟩;rw[afF p hq]at cC;obtain⟨n1,d1,b1,rfl,_⟩:=id cC;obtain⟨ti,ak,al⟩:=cJ;refine aI (.inl ⟨rfl,rfl⟩) rfl rfl rfl ak al rfl rfl rfl (ae [4] ?_);obtain⟨bQ,aN,aO⟩:=cJ;refine aE ⟨.inr rfl,_,.agg rfl Tryz.underlying90 aN aO (.nil),?_⟩;exact⟨fw,_,rfl,cC⟩
  have hb:0<q.num:=by have:=of_decide_eq_false hb;omega
  have m4:0<(p.den:Int)*q.num:=Int.mul_pos (by omega) hb;refine aA (aj [2,3,4] rfl ?_);refine ag (ab 4 rfl (gW rfl rfl ⟨by omega,by omega⟩ (ab 4 rfl (gW rfl rfl ⟨by omega,by omega⟩ (aF rfl rfl (Lf (by omega) (by omega) m4 (by omega)) ?_)))));rintro w1 G1 ⟨fw,GQ,rfl,cC⟩;rw[WW p hq]at cC;obtain⟨n1,d1,b1,rfl,_⟩:=id cC;obtain⟨ti,ak,al⟩:=cJ;refine aI (.inl ⟨rfl,rfl⟩) rfl rfl rfl ak al rfl rfl rfl (ae [4] ?_);obtain⟨bQ,aN,aO⟩:=cJ;refine aE ⟨.inr rfl,_,.agg rfl Tryz.underlying90 aN aO (.nil),?_⟩;exact⟨fw,_,rfl,cC⟩
end Go.aw
