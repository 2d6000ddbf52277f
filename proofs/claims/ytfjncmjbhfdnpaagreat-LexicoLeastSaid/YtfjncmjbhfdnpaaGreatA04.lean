/- Part 4 of the proof: Num1, Lp, Sx, Sy, Prg, Num2. -/
import Derived.Test.YtfjncmjbhfdnpaaGreatA03
set_option linter.unusedVariables false
namespace Go.au
open Go.Proofs Num
theorem qC:Tryz.prog.underlying 88=some (.pointer (Tryz.prog.pointee 88)):=by
 unfold Program.pointee;rw[Tryz.underlying88]
theorem tw{H:Heap}{g:Nat}{xs:List Value}{e i:Nat}{v:Value}(h:xs[i]? = some v):cell (ins H g (whole xs e)) ((⟨g,0,none⟩:Addr).add i)=some v:=by
 simp[cell,iN,ins,whole,h]
theorem K5{H:Heap}{g:Nat}{x:Value}{xs:List Value}{e:Nat}:cell (ins H g (whole (x::xs) e)) ⟨g,0,none⟩=some x:=by
 simp[cell,ins,whole]
theorem K6{H:Heap}{ad:Addr}{a b c:Value}(h0:cell H ad=some a)(h1:cell H (ad.add 1)=some b)(h2:cell H (ad.add 2)=some c):∀(i:Nat)(v:Value),[a,b,c][i]? = some v→cell H (ad.add i)=some v:=by
 intro i v hv
 match i with
 | 0=>simp only[List.getElem?_cons_zero,Option.some.injEq]at hv;subst hv;simpa [Addr.add]using h0
 | 1=>simp only[List.getElem?_cons_succ,List.getElem?_cons_zero,Option.some.injEq]at hv;subst hv;exact h1
 | 2=>simp only[List.getElem?_cons_succ,List.getElem?_cons_zero,Option.some.injEq]at hv;subst hv;exact h2
 | n+3=>simp at hv
theorem Bb{a b:Int}(h1: -2147483647≤a)(h2:a≤2147483647)(h3: -2147483647≤b)(h4:b≤2147483647): -4611686014132420609≤a*b∧a*b≤4611686014132420609:=by
 have h5:(a*b).natAbs≤2147483647*2147483647:=by rw[Int.natAbs_mul];exact Nat.mul_le_mul (by omega) (by omega)
 omega
theorem tx(p:Rat):(p.num:Rat)/((p.den:Int):Rat)=p:=by
 have:=Rat.mkRat_self p
 rwa [Rat.mkRat_eq_div]at this
theorem DI(p:Rat):((p.den:Int):Rat)≠0:=fun e=>p.den_nz (by exact_mod_cast e)
theorem den_pos(p:Rat):0<p.den:=Nat.pos_of_ne_zero p.den_nz
theorem lowest{n d:Int}(hd:0<d):(((n:Rat)/(d:Rat)).num=n.tdiv (Nat.gcd n.natAbs d.natAbs:Nat))∧((n:Rat)/(d:Rat)).den=d.natAbs/Nat.gcd n.natAbs d.natAbs:=by
 have h0:decide (d<0)=false:=decide_eq_false (by omega)
 have mX:0<d.natAbs:=by omega
 have e:=V8 n d
 rw[h0]at e
 rw[←e,yO mX,Ph mX]
 refine⟨?_,rfl⟩
 have hg:(Nat.gcd n.natAbs d.natAbs)∣n.natAbs:=Nat.gcd_dvd_left _ _
 by_cases hn:n<0
 ·rw[show (decide (n<0) != false)=true by simp[hn]]
  have e2:n = -(n.natAbs:Int):=by omega
  conv=>rhs;rw[e2,Int.neg_tdiv]
  simp[sg,Int.tdiv_eq_ediv_of_nonneg]
 ·rw[show (decide (n<0) != false)=false by simp[hn]]
  have e2:n=(n.natAbs:Int):=by omega
  conv=>rhs;rw[e2]
  simp[sg,Int.tdiv_eq_ediv_of_nonneg]
theorem afa{n:Int}{g:Nat}(h1: -9223372036854775807≤n)(h2:n≤9223372036854775807): -9223372036854775807≤n.tdiv g∧n.tdiv g≤9223372036854775807:=by
 have:(n.tdiv g).natAbs≤n.natAbs:=by
  rw[Int.natAbs_tdiv];exact Nat.div_le_self _ _
 omega
abbrev N3(n d:Int)(b:Option Addr):Value:= .agg #[.int .i64 n,.int .i64 d,.pointer b]
theorem wQ(H:Heap){n:Int}(h1: -9223372036854775807≤n)(h2:n≤9223372036854775807):bR H [.int .i64 n,.int .i64 1,.pointer none] (n:Rat):=
 ⟨_,_,_,rfl,.inl ⟨rfl,by simp,by simp,h1,h2,by decide⟩⟩
theorem wR{H:Heap}{n:Int}:
 Fn Tryz.prog 123 #[.int .i64 n] H (uY H (N3 n 1 none)):=by
 refine a7 (args:=[_]) Tryz.func123 rfl rfl Tryz.ntmps123 rfl rfl fun w0=> ?_;refine aj [0] rfl ?_;refine ag (bt fg rfl (ae [0,2] ?_));refine ag (ab 1 rfl (dy ah rfl fg rfl rfl ?_));obtain⟨ti,ak,al⟩:=cI;refine aH (.inl ⟨rfl,rfl⟩) rfl rfl rfl ak al rfl rfl rfl (ae [2] ?_);obtain⟨bQ,aM,aN⟩:=cI;refine aD ⟨.inr rfl,_,.agg rfl Tryz.underlying90 aM aN (.nil),?_⟩;exact⟨rfl,rfl⟩
theorem Wt{H:Heap}{u:Value}{l:List Nat}(hu:jx H u l)(hl:Lt l)(h2:l.length≤2):
 Fn Tryz.prog 188 #[u] H (uY H (.int .i64 (val l:Nat))):=by
 obtain⟨A,c,rfl,hc,hr⟩:=hu;refine a7 (args:=[_]) Tryz.func188 rfl rfl Tryz.ntmps188 rfl rfl fun w0=> ?_;refine aj [0] rfl ?_;refine ag (ab 1 rfl (ae [0] ?_));refine ag (ab 1 rfl (ae [0,3] ?_));refine ao (ag (ab 2 rfl (cV rfl rfl ⟨by omega,by omega⟩ (ab 1 rfl (ae [0,3,4] ?_)))));refine aF (gG (fun(k:Nat)=>k) (fun(k:Nat)=>put (put (put (emp) 0 (.val (.slice A l.length c))) 3 (.val (.int .i64 (val (l.drop k):Nat)))) 4 (.val (.int .i64 ((k:Int)-1)))) (fun(k:Nat) H'=>H'=H∧k≤l.length) l.length (⟨rfl,Nat.le_refl _⟩) (by simp only[List.drop_length];repeat (first | exact iL _ | refine du rfl ?_ | refine du (ja (by first | omega | (simp[val];done))) ?_)) ?_);rintro k H1 ⟨rfl,hk⟩;refine ao (ag (ab 2 rfl (ae [0,3,4,9] ?_)));refine aC rfl (fun hb=> ?_) (fun hb=> ?_)
 ·
  have hb:0<k:=by simp at hb;omega
  obtain⟨x,hx⟩:∃x,l[k-1]? = some x:=⟨_,List.getElem?_eq_getElem (by omega)⟩;have hxB:=hl.get hx
  have kR:val (l.drop (k-1))=x+B*val (l.drop k):=by
   obtain⟨iK,e⟩:=List.getElem?_eq_some_iff.1 hx;rw[List.drop_eq_getElem_cons iK,e,jv,show k-1+1=k by omega]
  have hvb:=uO (hl.drop k);have afb:B^(l.drop k).length≤B^1:=Nat.pow_le_pow_right nh (by rw[List.length_drop];omega)
  have amu:val (l.drop k)<1000000000:=by
   have:=Nat.lt_of_lt_of_le hvb afb
   rwa [Nat.pow_one,cj]at this
  rw[cj]at hxB kR;refine aA (aj [0,3,4] rfl ?_);refine ao (aF (aB rfl (ab 1 rfl (gM rfl rfl ⟨by omega,by omega⟩ (ab 2 rfl (aQ ah rfl rfl rfl rfl rfl (hr) (by rw[show ((k:Int)-1).toNat=k-1 by omega];exact dr hx) (by omega) (by omega) fun _=> ?_))))));refine dd ah rfl rfl rfl ⟨by omega,by omega⟩ (aG rfl rfl ⟨by omega,by omega⟩ (ab 1 rfl (aw (aj [0,3,4] rfl ?_))));refine aB rfl (ab 1 rfl (cV rfl rfl ⟨by omega,by omega⟩ (ab 1 rfl (aw ?_))));exact⟨k-1,by omega,(by rw[kR];repeat (first | exact iL _ | refine du rfl ?_ | refine du (ja (by omega)) ?_)),rfl,by omega⟩
 ·
  have hb:k=0:=by simp at hb;omega
  subst hb;refine aV (aj [3] rfl ?_);refine ag (ab 2 rfl (ae [2] ?_));refine aD ⟨.inr rfl,_,.tmp rfl (.nil),?_⟩;exact⟨rfl,rfl⟩
theorem yV{H:Heap}{v:Value}{q:Rat}(hv:bJ H v q):
 Fn Tryz.prog 130 #[v] H (tu H q):=by
 obtain⟨u,w,rfl,hu,hw⟩:=id hv
 have K7:=hv
 unfold bJ at K7
 obtain⟨f,hf⟩:∃f,f=decide (q.num<0):=⟨_,rfl⟩
 rw[←hf]at hv
 rw[←hf]
 obtain⟨A,c,rfl,hc,hr⟩:=id hu
 obtain⟨A',c',rfl,jH,dQ⟩:=id hw;refine a7 (args:=[_]) Tryz.func130 rfl rfl Tryz.ntmps130 rfl rfl fun w0=> ?_;refine aj [0] rfl ?_;refine ag (OI rfl rfl ?_);intro g hg;have hle:=Heap.bB (whole [.bool f,.slice A (an q.num.natAbs).length c,.slice A' (an q.den).length c'] 31) hg;refine bt fg rfl (ae [1,2] ?_);refine ao ?_
 by_cases h2:2<(an q.num.natAbs).length
 ·
  skip
  refine ag (aU ah rfl rfl rfl (aS ah rfl rfl rfl (tw rfl) (ab 1 rfl (aI true rfl rfl (nn (by omega)) (ab 6 rfl (ae [1,2,13] ?_))))));refine dN rfl (ag (dy ah rfl fg rfl rfl ?_));obtain⟨ti,ak,al⟩:=cI;refine aH (.inl ⟨rfl,rfl⟩) rfl rfl rfl ak al rfl rfl rfl (ae [2] ?_);obtain⟨bQ,aM,aN⟩:=cI;refine aD ⟨.inr rfl,_,.agg rfl Tryz.underlying90 aM aN (.nil),?_⟩;exact⟨hle,_,rfl,0,0,some ⟨g,0,none⟩,rfl,.inr ⟨_,f,_,_,rfl,hv.le hle,K5,tw rfl,tw rfl⟩⟩
 ·
  skip
  by_cases h3:2<(an q.den).length
  ·
   skip
   refine ag (aU ah rfl rfl rfl (aS ah rfl rfl rfl (tw rfl) (ab 1 rfl (aI false rfl rfl (jw (by omega)) (ab 1 rfl (aU ah rfl rfl rfl (aS ah rfl rfl rfl (tw rfl) (ab 1 rfl (aI true rfl rfl (nn (by omega)) (ab 1 rfl (ae [1,2,13] ?_)))))))))));refine dN rfl (ag (dy ah rfl fg rfl rfl ?_));obtain⟨ti,ak,al⟩:=cI;refine aH (.inl ⟨rfl,rfl⟩) rfl rfl rfl ak al rfl rfl rfl (ae [2] ?_);obtain⟨bQ,aM,aN⟩:=cI;refine aD ⟨.inr rfl,_,.agg rfl Tryz.underlying90 aM aN (.nil),?_⟩;exact⟨hle,_,rfl,0,0,some ⟨g,0,none⟩,rfl,.inr ⟨_,f,_,_,rfl,hv.le hle,K5,tw rfl,tw rfl⟩⟩
  skip
  refine ag (aU ah rfl rfl rfl (aS ah rfl rfl rfl (tw rfl) (ab 1 rfl (aI false rfl rfl (jw (by omega)) (ab 1 rfl (aU ah rfl rfl rfl (aS ah rfl rfl rfl (tw rfl) (ab 1 rfl (aI false rfl rfl (jw (by omega)) (ab 1 rfl (ae [1,2,13] ?_)))))))))));refine dU rfl (aA (aj [1,2] rfl ?_));have Gq:=jd.1 (show (an q.num.natAbs).length≤2 by omega);have s5:=jd.1 (show (an q.den).length≤2 by omega);rw[cj]at Gq s5;refine bO .bL [0,1,3,4,2,5,6,7,8] follows (by kernel_rfl) ?_;refine aU ah rfl rfl rfl (aS ah rfl rfl rfl (tw rfl) (aU ah rfl rfl rfl (aS ah rfl rfl rfl (tw rfl) (bm rfl rfl (Wt (hu.le hle) (fP _).lt (by omega)) (fun _ _ h=>h.le) ?_))));rintro v1 H1 ⟨e1,rfl⟩;rw[e1,cR];refine bm rfl rfl (Wt (hw.le hle) (fP _).lt (by omega)) (fun _ _ h=>h.le) ?_;rintro v1 H1 ⟨e1,rfl⟩;rw[e1,cR];refine dy ah rfl fg rfl rfl (bt fg rfl ?_);obtain⟨ti,ak,al⟩:=cI;refine aH (.inl ⟨rfl,rfl⟩) rfl rfl rfl ak al rfl rfl rfl (ae [1,2,3] ?_);refine ao (ag (aU ah rfl rfl rfl ?_))
  refine aS ah rfl rfl rfl (K5) (ae [2,3,23] ?_);refine aC rfl (fun hb=> ?_) (fun hb=> ?_)
  ·
   have hq:q.num<0:=by rw[hf]at hb;simpa using hb
   refine aB rfl (ab 2 rfl (te rfl ⟨by omega,by omega⟩ (vr 1 ?_)));obtain⟨ti,ak,al⟩:=oE;refine aH (.inr rfl) rfl rfl rfl ak al rfl rfl rfl (aw (aj [2,3] rfl ?_));refine ag (vr 1 ?_);obtain⟨ti,ak,al⟩:=cI;refine aH (.inl ⟨rfl,rfl⟩) rfl rfl rfl ak al rfl rfl rfl (ae [2] ?_);obtain⟨bQ,aM,aN⟩:=cI;refine aD ⟨.inr rfl,_,.agg rfl Tryz.underlying90 aM aN (.nil),?_⟩;refine⟨hle,_,rfl,-(q.num.natAbs:Int),(q.den:Int),none,rfl,.inl ⟨rfl,by omega,rfl,by omega,by omega,by omega⟩⟩
  have hq:¬q.num<0:=by rw[hf]at hb;simpa using hb
  refine aA (aj [2,3] rfl ?_);refine ag (vr 1 ?_);obtain⟨ti,ak,al⟩:=cI;refine aH (.inl ⟨rfl,rfl⟩) rfl rfl rfl ak al rfl rfl rfl (ae [2] ?_);obtain⟨bQ,aM,aN⟩:=cI;refine aD ⟨.inr rfl,_,.agg rfl Tryz.underlying90 aM aN (.nil),?_⟩;refine⟨hle,_,rfl,(q.num.natAbs:Int),(q.den:Int),none,rfl,.inl ⟨rfl,by omega,rfl,by omega,by omega,by omega⟩⟩
theorem PE{H:Heap}{v:Value}{q:Rat}{N:Nat}(hv:cn H v q N)(hN:(N:Int)≤1099511627776):
 Fn Tryz.prog 121 #[v] H (tu H q):=by
 obtain⟨bf,bu,bw,nP,nQ,rfl,_⟩:=id hv;refine a7 (args:=[_]) Tryz.func121 rfl rfl Tryz.ntmps121 rfl rfl fun w0=> ?_;refine aj [0] rfl ?_;refine ag (bX rfl rfl (bt fg rfl (ae [1,2] ?_)));refine ag (ab 1 rfl (aE rfl rfl (Dx hv hN) ?_));rintro w1 G1 ⟨fq,cB⟩;obtain⟨u1,x1,rfl,eO,eV⟩:=id cB;obtain⟨mA,mB,rfl,mC,mD⟩:=id eO;obtain⟨tz,tA,rfl,tB,tC⟩:=id eV;refine aE rfl rfl (yV cB) ?_;rintro w2 G2 ⟨dP,PF,rfl,bU⟩;obtain⟨n2,d2,b2,rfl,_⟩:=id bU;obtain⟨ti,ak,al⟩:=cI;refine aH (.inl ⟨rfl,rfl⟩) rfl rfl rfl ak al rfl rfl rfl (ae [2] ?_);obtain⟨bQ,aM,aN⟩:=cI;refine aD ⟨.inr rfl,_,.agg rfl Tryz.underlying90 aM aN (.nil),?_⟩;exact⟨fq.trans dP,_,rfl,bU⟩
theorem rO{H:Heap}{vs:List Value}{q:Rat}(hv:bR H vs q):
 Fn Tryz.prog 187 #[.agg vs.toArray] H (kp H q):=by
 obtain⟨n,d,b,rfl,iJ⟩:=id hv
 have cK:=fun ad f u w (h:bJ H (.agg #[.bool f,u,w]) q)(_:b=some ad)=>h.raw;refine a7 (args:=[_]) Tryz.func187 rfl rfl Tryz.ntmps187 rfl rfl fun w0=> ?_;refine aj [0] rfl ?_;refine ag (bX rfl rfl (bt bY rfl (ae [1,2] ?_)));refine ao ?_
 rcases iJ with ⟨rfl,hn,hd,h1,h2,h3⟩ | ⟨ad,f,u,w,rfl,tD,mE,iq,nu⟩
 ·
  skip
  refine ag (ab 2 rfl (yz qC rfl rfl (ae [1,2,5] ?_)));refine dU rfl (aA (aj [1,2] rfl ?_));refine ag (ab 4 rfl (aE rfl rfl (Wj (by omega) (by omega) (by omega) (by omega)) ?_));rintro w1 G1 ⟨fq,cB⟩;obtain⟨u1,x1,rfl,eO,eV⟩:=id cB;obtain⟨mA,mB,rfl,mC,mD⟩:=id eO;obtain⟨tz,tA,rfl,tB,tC⟩:=id eV;rw[hn,hd,tx]at cB;obtain⟨ti,ak,al⟩:=aY;refine aH (.inl ⟨rfl,rfl⟩) rfl rfl rfl ak al rfl rfl rfl (ae [2] ?_);obtain⟨bQ,aM,aN⟩:=aY;refine aD ⟨.inr rfl,_,.agg rfl Tryz.underlying31 aM aN (.nil),?_⟩
  skip
  rw[hn,hd,tx];exact⟨fq,cB⟩
 ·
  obtain⟨u1,w1,Bc,eO,gq⟩:=id tD
  obtain⟨rfl,rfl,rfl⟩:f=decide (q.num<0)∧u=u1∧w=w1:=by simpa using Bc
  obtain⟨mA,mB,rfl,mC,mD⟩:=id eO;obtain⟨Dt,Du,rfl,Dv,Dw⟩:=id gq;refine ag (ab 2 rfl (yz qC rfl rfl (ae [1,2,5] ?_)));refine dN rfl (ag (ab 3 rfl (yA (vs:=[.bool _,_,_]) ah rfl rfl rfl (K6 mE iq nu) ?_)));obtain⟨ti,ak,al⟩:=aY;refine aH (.inl ⟨rfl,rfl⟩) rfl rfl rfl ak al rfl rfl rfl (ae [2] ?_);obtain⟨bQ,aM,aN⟩:=aY;refine aD ⟨.inr rfl,_,.agg rfl Tryz.underlying31 aM aN (.nil),?_⟩;exact⟨.refl _,tD⟩
theorem Wu{H:Heap}{vs:List Value}{q:Rat}(hv:bR H vs q)(hN:(aO q:Int)≤1099511627776):
 Fn Tryz.prog 61 #[.agg vs.toArray] H (kp H q):=by
 obtain⟨n,d,b,rfl,iJ⟩:=id hv
 have cK:=fun ad f u w (h:bJ H (.agg #[.bool f,u,w]) q)(_:b=some ad)=>h.raw;refine a7 (args:=[_]) Tryz.func61 rfl rfl Tryz.ntmps61 rfl rfl fun w0=> ?_;refine aj [0] rfl ?_;refine ag (bX rfl rfl (bt bY rfl (ae [1,2] ?_)));refine ao ?_
 rcases iJ with ⟨rfl,hn,hd,h1,h2,h3⟩ | ⟨ad,f,u,w,rfl,tD,mE,iq,nu⟩
 ·
  skip
  refine ag (ab 2 rfl (yz qC rfl rfl (ae [1,2,5] ?_)));refine dU rfl (aA (aj [1,2] rfl ?_));refine ag (ab 4 rfl (aE rfl rfl (Wj (by omega) (by omega) (by omega) (by omega)) ?_));rintro w1 G1 ⟨fq,cB⟩;obtain⟨u1,x1,rfl,eO,eV⟩:=id cB;obtain⟨mA,mB,rfl,mC,mD⟩:=id eO;obtain⟨tz,tA,rfl,tB,tC⟩:=id eV;rw[hn,hd,tx]at cB;obtain⟨ti,ak,al⟩:=aY;refine aH (.inl ⟨rfl,rfl⟩) rfl rfl rfl ak al rfl rfl rfl (ae [2] ?_);obtain⟨bQ,aM,aN⟩:=aY;refine aD ⟨.inr rfl,_,.agg rfl Tryz.underlying31 aM aN (.nil),?_⟩
  skip
  rw[hn,hd,tx];exact⟨fq,cB⟩
 ·
  obtain⟨u1,w1,Bc,eO,gq⟩:=id tD
  obtain⟨rfl,rfl,rfl⟩:f=decide (q.num<0)∧u=u1∧w=w1:=by simpa using Bc
  obtain⟨mA,mB,rfl,mC,mD⟩:=id eO;obtain⟨Dt,Du,rfl,Dv,Dw⟩:=id gq;refine ag (ab 2 rfl (yz qC rfl rfl (ae [1,2,5] ?_)));refine dN rfl (ag (ab 3 rfl (yA (vs:=[.bool _,_,_]) ah rfl rfl rfl (K6 mE iq nu) (aE rfl rfl (Dx tD.raw hN) ?_))));rintro w1 G1 ⟨fq,cB⟩;obtain⟨u1,x1,rfl,eO,eV⟩:=id cB;obtain⟨mA,mB,rfl,mC,mD⟩:=id eO;obtain⟨tz,tA,rfl,tB,tC⟩:=id eV;obtain⟨ti,ak,al⟩:=aY;refine aH (.inl ⟨rfl,rfl⟩) rfl rfl rfl ak al rfl rfl rfl (ae [2] ?_);obtain⟨bQ,aM,aN⟩:=aY;refine aD ⟨.inr rfl,_,.agg rfl Tryz.underlying31 aM aN (.nil),?_⟩;exact⟨fq,cB⟩
theorem afc{H:Heap}{n d:Int}{b:Option Addr}:
 Fn Tryz.prog 184 #[N3 n d b] H (fun v H'=>H'=H∧∃t,v = .bool t∧(t=true↔b=none∧-2147483647≤n∧n≤2147483647∧d≤2147483647)):=by
 refine a7 (args:=[_]) Tryz.func184 rfl rfl Tryz.ntmps184 rfl rfl fun w0=> ?_;refine aj [0] rfl ?_;refine ag (bX rfl rfl (ab 1 rfl (ae [1] ?_)))
 rcases b with _ | ad
 rotate_left
 ·
  skip
  refine ag (ab 2 rfl (FG qC rfl rfl (ab 16 rfl (ae [2] ?_))));refine aD ⟨.inr rfl,_,.tmp rfl (.nil),?_⟩;exact⟨rfl,_,rfl,by constructor <;> intro h <;> first | (cases h;done) | exact⟨rfl,h1,h2,h3⟩ | (obtain⟨h4,h5,h6,h7⟩:=h;first | (cases h4;done) | omega) | rfl⟩
 ·
  skip
  by_cases h1: -2147483647≤n
  ·
   skip
   by_cases h2:n≤2147483647
   ·
    skip
    by_cases h3:d≤2147483647
    ·
     skip
     refine ag (ab 2 rfl (FG qC rfl rfl (ab 3 rfl (aI true rfl rfl (pO h1) (ab 4 rfl (aI true rfl rfl (pO h2) (ab 4 rfl (aI true rfl rfl (pO h3) (ab 2 rfl (ae [2] ?_))))))))));refine aD ⟨.inr rfl,_,.tmp rfl (.nil),?_⟩;exact⟨rfl,_,rfl,by constructor <;> intro h <;> first | (cases h;done) | exact⟨rfl,h1,h2,h3⟩ | (obtain⟨h4,h5,h6,h7⟩:=h;first | (cases h4;done) | omega) | rfl⟩
    skip
    refine ag (ab 2 rfl (FG qC rfl rfl (ab 3 rfl (aI true rfl rfl (pO h1) (ab 4 rfl (aI true rfl rfl (pO h2) (ab 4 rfl (aI false rfl rfl (yH (by omega)) (ab 2 rfl (ae [2] ?_))))))))));refine aD ⟨.inr rfl,_,.tmp rfl (.nil),?_⟩;exact⟨rfl,_,rfl,by constructor <;> intro h <;> first | (cases h;done) | exact⟨rfl,h1,h2,h3⟩ | (obtain⟨h4,h5,h6,h7⟩:=h;first | (cases h4;done) | omega) | rfl⟩
   skip
   refine ag (ab 2 rfl (FG qC rfl rfl (ab 3 rfl (aI true rfl rfl (pO h1) (ab 4 rfl (aI false rfl rfl (yH (by omega)) (ab 7 rfl (ae [2] ?_))))))));refine aD ⟨.inr rfl,_,.tmp rfl (.nil),?_⟩;exact⟨rfl,_,rfl,by constructor <;> intro h <;> first | (cases h;done) | exact⟨rfl,h1,h2,h3⟩ | (obtain⟨h4,h5,h6,h7⟩:=h;first | (cases h4;done) | omega) | rfl⟩
  skip
  refine ag (ab 2 rfl (FG qC rfl rfl (ab 3 rfl (aI false rfl rfl (yH (by omega)) (ab 12 rfl (ae [2] ?_))))));refine aD ⟨.inr rfl,_,.tmp rfl (.nil),?_⟩;exact⟨rfl,_,rfl,by constructor <;> intro h <;> first | (cases h;done) | exact⟨rfl,h1,h2,h3⟩ | (obtain⟨h4,h5,h6,h7⟩:=h;first | (cases h4;done) | omega) | rfl⟩
def wS(n d:Int)(b:Option Addr):Bool:=b.isNone&&(decide (-2147483647≤n)&&(decide (n≤2147483647)&&decide (d≤2147483647)))
theorem Be{n d:Int}{b:Option Addr}:wS n d b=true↔b=none∧-2147483647≤n∧n≤2147483647∧d≤2147483647:=by
 simp[wS]
theorem oZ{H:Heap}{n d:Int}{b:Option Addr}:Fn Tryz.prog 184 #[N3 n d b] H (uY H (.bool (wS n d b))):=
 afc.mono fun v H' ⟨h1,t,h2,h3⟩=>⟨h1,by rw[h2];congr 1;rw[Bool.eq_iff_iff,h3,Be]⟩
theorem K8{H:Heap}{n d:Int}(h1: -9223372036854775807≤n)(h2:n≤9223372036854775807)(h3:0<d)(h4:d≤9223372036854775807):
 Fn Tryz.prog 185 #[.int .i64 n,.int .i64 d] H (tu H ((n:Rat)/(d:Rat))):=by
 have uX:=lowest (n:=n) h3;refine a7 (args:=[_,_]) Tryz.func185 rfl rfl Tryz.ntmps185 rfl rfl fun w0=> ?_;refine aj [0,1] rfl ?_;refine ag (bt fg rfl (ae [0,1,4] ?_));refine ag (ab 2 rfl (te rfl ⟨by omega,by omega⟩ (ac8 rfl rfl ?_)));rw[show (if -n>n then -n else n)=((n.natAbs:Nat):Int) by split <;> omega];refine ab 3 rfl (ae [0,1,4,5,6] ?_);refine ao (aF (gX (fun(a:Nat)(b:Nat)=>b) (fun(a:Nat)(b:Nat)=>put (put (put (put (put (emp) 0 (.val (.int .i64 n))) 1 (.val (.int .i64 d))) 4 (.box [.int .i64 0,.int .i64 0,.pointer none])) 5 (.val (.int .i64 (a:Int)))) 6 (.val (.int .i64 (b:Int)))) (fun(a:Nat)(b:Nat) H'=>H'=H∧Nat.gcd a b=Nat.gcd n.natAbs d.natAbs∧a≤9223372036854775807∧b≤9223372036854775807) n.natAbs d.natAbs (⟨rfl,rfl,by omega,by omega⟩) ar ?_));rintro a b H1 ⟨rfl,hg,ha,lx⟩;refine ao (ag (ab 2 rfl (ae [0,1,4,5,6,13] ?_)));refine aC rfl (fun hb=> ?_) (fun hb=> ?_)
 ·
  have hb:0<b:=by simp at hb;omega
  refine aA (aj [0,1,4,5,6] rfl ?_);refine aF (eu .bL [0,1,2,3,4,5] follows (by kernel_rfl) ?_);refine ab 3 rfl (m7 rfl rfl (by omega) (by omega) (ab 2 rfl (aw ?_)));exact⟨b,a%b,Nat.mod_lt a hb,ar,rfl,by rw[←hg,Nat.gcd_comm b,←Nat.gcd_rec,Nat.gcd_comm],lx,by have:=Nat.mod_lt a hb;omega⟩
 ·
  have hb:b=0:=by simp at hb;omega
  subst hb;rw[Nat.gcd_zero_right]at hg
  have ha0:0<a:=by rw[hg];exact Nat.gcd_pos_of_pos_right _ (by omega)
  have iX:=afa (g:=a) h1 h2;have jV:(d/(a:Int))≤d∧0≤d/(a:Int):=⟨Int.ediv_le_self _ (by omega),Int.ediv_nonneg (by omega) (by omega)⟩;refine aV (aj [0,1,4,5] rfl ?_);refine bO .bL [0,1,2,3,4,5,6,7] follows (by kernel_rfl) ?_;refine ab 2 rfl (Vt rfl rfl (by omega) ⟨by omega,by omega⟩ (ab 2 rfl (lP rfl rfl (by omega) (by omega) ⟨by omega,by omega⟩ (dy ah rfl fg rfl rfl ?_))));obtain⟨ti,ak,al⟩:=cI;refine aH (.inl ⟨rfl,rfl⟩) rfl rfl rfl ak al rfl rfl rfl (ae [4] ?_);obtain⟨bQ,aM,aN⟩:=cI;refine aD ⟨.inr rfl,_,.agg rfl Tryz.underlying90 aM aN (.nil),?_⟩;rw[←hg]at uX;refine⟨.refl _,_,rfl,n.tdiv a,d/(a:Int),none,rfl,.inl ⟨rfl,uX.1.symm,?_,iX.1,iX.2,by omega⟩⟩;rw[uX.2]
  have e:d=(d.natAbs:Int):=by omega
  rw[e,Int.natAbs_natCast];rfl
theorem tE{H:Heap}{vs:List Value}{q:Rat}(hv:bR H vs q)(hN:(aO q:Int)≤1099511627776):
 Fn Tryz.prog 53 #[.agg vs.toArray] H (fun v H'=>Heap.le H H'∧v = .int .i64 (gZ q)):=by
 obtain⟨n,d,b,rfl,iJ⟩:=id hv
 have cK:=fun ad f u w (h:bJ H (.agg #[.bool f,u,w]) q)(_:b=some ad)=>h.raw
 have hs:=Wq q;refine a7 (args:=[_]) Tryz.func53 rfl rfl Tryz.ntmps53 rfl rfl fun w0=> ?_;refine aj [0] rfl ?_;refine ag (bX rfl rfl (ab 1 rfl (ae [1] ?_)));refine ao (aF ?_)
 rcases iJ with ⟨rfl,hn,hd,h1,h2,h3⟩ | ⟨ad,f,u,w,rfl,tD,mE,iq,nu⟩
 ·
  skip
  refine ag (ab 2 rfl (yz qC rfl rfl (ab 1 rfl (ae [1,3] ?_))));refine dU rfl (ag (ab 4 rfl (ae [1,12] ?_)));refine aC rfl (fun hb=> ?_) (fun hb=> ?_)
  ·
   have hb:n<0:=by simpa using hb
   rw[if_neg (by omega),decide_eq_true (by omega)]at hs;refine ag (ab 1 rfl (ae [2] ?_));refine aD ⟨.inr rfl,_,.tmp rfl (.nil),?_⟩;exact⟨.refl _,by rw[hs];rfl⟩
  ·
   have hb:0≤n:=by simpa using hb
   refine ag (ab 4 rfl (ae [16] ?_));refine aC rfl (fun hb=> ?_) (fun hb=> ?_)
   ·
    have hb:0<n:=by simpa using hb
    rw[if_neg (by omega),decide_eq_false (by omega)]at hs;refine ag (ab 1 rfl (ae [2] ?_));refine aD ⟨.inr rfl,_,.tmp rfl (.nil),?_⟩;exact⟨.refl _,by rw[hs];rfl⟩
   have cD:n≤0:=by simpa using hb
   rw[if_pos (by omega)]at hs;refine aA (aj [] rfl ?_);refine ag (ab 1 rfl (ae [2] ?_));refine aD ⟨.inr rfl,_,.tmp rfl (.nil),?_⟩;exact⟨.refl _,by rw[hs];rfl⟩
 ·
  obtain⟨u1,w1,Bc,eO,gq⟩:=id tD
  obtain⟨rfl,rfl,rfl⟩:f=decide (q.num<0)∧u=u1∧w=w1:=by simpa using Bc
  obtain⟨mA,mB,rfl,mC,mD⟩:=id eO;obtain⟨Dt,Du,rfl,Dv,Dw⟩:=id gq;refine ag (ab 2 rfl (yz qC rfl rfl (ab 1 rfl (ae [1,3] ?_))));refine dN rfl (ag (ab 3 rfl (yA (vs:=[.bool _,_,_]) ah rfl rfl rfl (K6 mE iq nu) (aE rfl rfl (Wk tD.raw hN) ?_))));rintro v1 H1 ⟨cH,rfl⟩;refine ab 1 rfl (ae [2] ?_);refine aD ⟨.inr rfl,_,.tmp rfl (.nil),?_⟩;exact⟨cH,rfl⟩
theorem DJ{H:Heap}{vs:List Value}{q:Rat}(hv:bR H vs q)(hN:(aO q:Int)≤1099511627776):
 Fn Tryz.prog 58 #[.agg vs.toArray] H (tu H (-q)):=by
 obtain⟨n,d,b,rfl,iJ⟩:=id hv
 have cK:=fun ad f u w (h:bJ H (.agg #[.bool f,u,w]) q)(_:b=some ad)=>h.raw;refine a7 (args:=[_]) Tryz.func58 rfl rfl Tryz.ntmps58 rfl rfl fun w0=> ?_;refine aj [0] rfl ?_;refine ag (bX rfl rfl (bt fg rfl (ae [1,2] ?_)));refine ao ?_
 rcases iJ with ⟨rfl,hn,hd,h1,h2,h3⟩ | ⟨ad,f,u,w,rfl,tD,mE,iq,nu⟩
 ·
  skip
  refine ag (ab 2 rfl (yz qC rfl rfl (ae [1,2,5] ?_)));refine dU rfl (aA (aj [1,2] rfl ?_));refine ag (ab 2 rfl (te rfl ⟨by omega,by omega⟩ (ab 2 rfl (dy ah rfl fg rfl rfl ?_))));obtain⟨ti,ak,al⟩:=cI;refine aH (.inl ⟨rfl,rfl⟩) rfl rfl rfl ak al rfl rfl rfl (ae [2] ?_);obtain⟨bQ,aM,aN⟩:=cI;refine aD ⟨.inr rfl,_,.agg rfl Tryz.underlying90 aM aN (.nil),?_⟩;exact⟨.refl _,_,rfl,-n,d,none,rfl,.inl ⟨rfl,by rw[Rat.neg_num,hn],by rw[Rat.neg_den,hd],by omega,by omega,by omega⟩⟩
 ·
  obtain⟨u1,w1,Bc,eO,gq⟩:=id tD
  obtain⟨rfl,rfl,rfl⟩:f=decide (q.num<0)∧u=u1∧w=w1:=by simpa using Bc
  obtain⟨mA,mB,rfl,mC,mD⟩:=id eO;obtain⟨Dt,Du,rfl,Dv,Dw⟩:=id gq;refine ag (ab 2 rfl (yz qC rfl rfl (ae [1,2,5] ?_)));refine dN rfl (ag (ab 3 rfl (yA (vs:=[.bool _,_,_]) ah rfl rfl rfl (K6 mE iq nu) (aE rfl rfl (ae6 tD.raw hN) ?_))));rintro w1 G1 ⟨fq,cB⟩;obtain⟨u1,x1,rfl,eO,eV⟩:=id cB;obtain⟨mA,mB,rfl,mC,mD⟩:=id eO;obtain⟨tz,tA,rfl,tB,tC⟩:=id eV;refine aE rfl rfl (yV cB) ?_;rintro w2 G2 ⟨dP,PF,rfl,bU⟩;obtain⟨n2,d2,b2,rfl,_⟩:=id bU;obtain⟨ti,ak,al⟩:=cI;refine aH (.inl ⟨rfl,rfl⟩) rfl rfl rfl ak al rfl rfl rfl (ae [2] ?_);obtain⟨bQ,aM,aN⟩:=cI;refine aD ⟨.inr rfl,_,.agg rfl Tryz.underlying90 aM aN (.nil),?_⟩;exact⟨fq.trans dP,_,rfl,bU⟩
end Go.au
namespace Lp
def bo:Nat→(Nat→Rat)→Rat
 | 0,_=>0
 | n+1,f=>bo n f+f n
theorem fW(n:Nat)(f:Nat→Rat):bo (n+1) f=bo n f+f n:=rfl
theorem Bf(f:Nat→Rat):bo 0 f=0:=rfl
theorem eK{n:Nat}{f g:Nat→Rat}(h:∀i,i<n→f i=g i):bo n f=bo n g:=by
 induction n with
 | zero=>rfl
 | succ n ih=>
  rw[fW,fW,ih (fun i hi=>h i (by omega)),h n (by omega)]
theorem PG(n:Nat)(f g:Nat→Rat):bo n (fun i=>f i+g i)=bo n f+bo n g:=by
 induction n with
 | zero=>simp only[bo];grind
 | succ n ih=>simp only[fW,ih];grind
theorem Gr(n:Nat)(f g:Nat→Rat):bo n (fun i=>f i-g i)=bo n f-bo n g:=by
 induction n with
 | zero=>simp only[bo];grind
 | succ n ih=>simp only[fW,ih];grind
theorem wT(n:Nat)(k:Rat)(f:Nat→Rat):bo n (fun i=>k*f i)=k*bo n f:=by
 induction n with
 | zero=>simp[bo]
 | succ n ih=>simp only[fW,ih];grind
theorem vd(n:Nat)(k:Rat)(f:Nat→Rat):bo n (fun i=>f i*k)=bo n f*k:=by
 induction n with
 | zero=>simp[bo]
 | succ n ih=>simp only[fW,ih];grind
theorem K9(n:Nat)(f:Nat→Rat):bo n (fun i=> - f i) = - bo n f:=by
 induction n with
 | zero=>simp only[bo];grind
 | succ n ih=>simp only[fW,ih];grind
theorem La(n:Nat):bo n (fun _=>0)=0:=by
 induction n with
 | zero=>rfl
 | succ n ih=>rw[fW,ih];grind
theorem mG{n:Nat}{f:Nat→Rat}(h:∀i,i<n→f i=0):bo n f=0:=by
 rw[eK h,La]
theorem rP{n k:Nat}(hk:k<n)(f:Nat→Rat)(h:∀i,i<n→i≠k→f i=0):bo n f=f k:=by
 induction n with
 | zero=>omega
 | succ n ih=>
  rw[fW]
  by_cases e:k=n
  ·subst e
   rw[mG (fun i hi=>h i (by omega) (by omega))];grind
  ·rw[ih (by omega) (fun i hi aZ=>h i (by omega) aZ),h n (by omega) (by omega)];grind
theorem Lb(m n:Nat)(f:Nat→Nat→Rat):
  bo m (fun i=>bo n (fun j=>f i j))=bo n (fun j=>bo m (fun i=>f i j)):=by
 induction m with
 | zero=>simp[bo,La]
 | succ m ih=>simp only[fW,ih,PG]
theorem Gs{n:Nat}{f:Nat→Rat}(h:∀i,i<n→0≤f i):0≤bo n f:=by
 induction n with
 | zero=>exact Rat.le_refl
 | succ n ih=>
  rw[fW]
  have h1:=ih (fun i hi=>h i (by omega))
  have h2:=h n (by omega)
  grind
theorem Lc{n:Nat}{f g:Nat→Rat}(h:∀i,i<n→f i≤g i):bo n f≤bo n g:=by
 induction n with
 | zero=>exact Rat.le_refl
 | succ n ih=>
  rw[fW,fW]
  have h1:=ih (fun i hi=>h i (by omega))
  have h2:=h n (by omega)
  grind
theorem afd{n:Nat}{f:Nat→Rat}(h:0<bo n f):∃i,i<n∧0<f i:=by
 false_or_by_contra
 rename_i hc
 have:bo n f≤bo n (fun _=>0):=Lc (fun i hi=>by
  have:¬0<f i:=fun hp=>hc ⟨i,hi,hp⟩
  grind)
 rw[La]at this
 grind
theorem PH{n k:Nat}(hk:k<n)(f:Nat→Rat):bo n (fun i=>if i=k then f i else 0)=f k:=by
 rw[rP hk _ (fun i _ aZ=>if_neg aZ),if_pos rfl]
structure aq where
 m:Nat
 n:Nat
 A:Nat→Nat→Rat
 c:Nat→Rat
 B:Nat→Nat
namespace aq
def pU(T:aq)(x:Nat→Rat):Prop:=∀i,i<T.m→bo (T.n+1) (fun j=>T.A i j*x j)=0
def cost(T:aq)(x:Nat→Rat):Rat:=bo (T.n+1) (fun j=>T.c j*x j)
structure WF(T:aq):Prop where
 lt:∀i,i<T.m→T.B i<T.n
 unit:∀i k,i<T.m→k<T.m→T.A k (T.B i)=if k=i then 1 else 0
 zero:∀i,i<T.m→T.c (T.B i)=0
theorem WF.inj{T:aq}(h:T.WF){i k:Nat}(hi:i<T.m)(hk:k<T.m)(e:T.B i=T.B k):i=k:=by
 have h1:=h.unit i k hi hk
 have h2:=h.unit k k hk hk
 rw[e,h2]at h1
 simp at h1
 exact h1.symm
def j0(T:aq):Prop:=∀i,i<T.m→0≤T.A i T.n
def dir(T:aq)(s:Nat)(j:Nat):Rat:=(if j=s then 1 else 0)-bo T.m (fun i=>if T.B i=j then T.A i s else 0)
theorem DK(T:aq)(hB:∀i,i<T.m→T.B i<T.n)(s:Nat)(hs:s≤T.n)(f:Nat→Rat):
  bo (T.n+1) (fun j=>f j*T.dir s j)=f s-bo T.m (fun i=>f (T.B i)*T.A i s):=by
 have e1:∀j,f j*T.dir s j=(if j=s then f j else 0)-bo T.m (fun i=>if j=T.B i then f j*T.A i s else 0):=by
  intro j
  unfold dir
  have:bo T.m (fun i=>if j=T.B i then f j*T.A i s else 0)=f j*bo T.m (fun i=>if T.B i=j then T.A i s else 0):=by
   rw[←wT]
   refine eK fun i _=> ?_
   by_cases e:T.B i=j
   ·rw[if_pos e,if_pos e.symm]
   ·rw[if_neg e,if_neg (fun h=>e h.symm)];grind
  rw[this]
  by_cases e:j=s
  ·rw[if_pos e,if_pos e];grind
  ·rw[if_neg e,if_neg e];grind
 rw[eK (fun j _=>e1 j),Gr,PH (by omega)]
 congr 1
 rw[Lb]
 refine eK fun i hi=> ?_
 have:=hB i hi
 exact PH (f:=fun j=>f j*T.A i s) (by omega)
theorem yW{T:aq}(h:T.WF)(s:Nat)(hs:s≤T.n):T.pU (T.dir s):=by
 intro k hk
 rw[DK T h.lt s hs]
 rw[rP hk]
 ·rw[h.unit k k hk hk,if_pos rfl];grind
 ·intro i hi aZ
  rw[h.unit i k hi hk,if_neg (fun e=>aZ e.symm)];grind
theorem DL{T:aq}(h:T.WF)(s:Nat)(hs:s≤T.n):T.cost (T.dir s)=T.c s:=by
 unfold cost
 rw[DK T h.lt s hs,mG]
 ·grind
 ·intro i hi;rw[h.zero i hi];grind
def pivot(T:aq)(r s:Nat):aq:=
 {m:=T.m,n:=T.n
  A:=fun i j=>if i=r then T.A r j/T.A r s else T.A i j-T.A i s*(T.A r j/T.A r s)
  c:=fun j=>T.c j-T.c s*(T.A r j/T.A r s)
  B:=fun i=>if i=r then s else T.B i}
theorem Bg{T:aq}(h:T.WF){r s:Nat}(hr:r<T.m)(hs:s<T.n)(hp:T.A r s≠0):(T.pivot r s).WF:=by
 refine⟨fun i hi=> ?_,fun i k hi hk=> ?_,fun i hi=> ?_⟩
 ·simp only[pivot]at hi⊢
  split
  ·exact hs
  ·exact h.lt i hi
 ·simp only[pivot]at hi hk⊢
  by_cases ei:i=r
  ·simp only[if_pos ei]
   by_cases ek:k=r
   ·simp only[ek,ei,if_true];grind
   ·simp only[if_neg ek]
    rw[if_neg (by omega)];grind
  ·simp only[if_neg ei]
   have hu:=h.unit i r hi hr
   rw[if_neg (fun e=>ei e.symm)]at hu
   rw[hu]
   by_cases ek:k=r
   ·simp only[if_pos ek]
    rw[if_neg (by omega)];grind
   ·simp only[if_neg ek]
    rw[h.unit i k hi hk];grind
 ·simp only[pivot]at hi⊢
  by_cases ei:i=r
  ·simp only[if_pos ei];grind
  ·simp only[if_neg ei]
   have hu:=h.unit i r hi hr
   rw[if_neg (fun e=>ei e.symm)]at hu
   rw[hu,h.zero i hi];grind
theorem Wv(T:aq)(r s i:Nat)(x:Nat→Rat):
  bo (T.n+1) (fun j=>(T.pivot r s).A i j*x j) =
   if i=r then bo (T.n+1) (fun j=>T.A r j*x j)/T.A r s
   else bo (T.n+1) (fun j=>T.A i j*x j)-T.A i s*(bo (T.n+1) (fun j=>T.A r j*x j)/T.A r s):=by
 simp only[pivot]
 by_cases e:i=r
 ·simp only[if_pos e]
  rw[Rat.div_def,←vd]
  exact eK fun j _=>by grind
 ·simp only[if_neg e]
  rw[Rat.div_def,←vd,←wT,←Gr]
  exact eK fun j _=>by grind
theorem PI{T:aq}{r s:Nat}(hr:r<T.m)(hp:T.A r s≠0)(x:Nat→Rat):(T.pivot r s).pU x↔T.pU x:=by
 constructor
 ·intro h i hi
  have dQ:=h r hr
  have fX:=h i hi
  have en:(T.pivot r s).n=T.n:=rfl
  rw[en,Wv]at dQ fX
  rw[if_pos rfl]at dQ
  have h0:bo (T.n+1) (fun j=>T.A r j*x j)=0:=by grind
  by_cases e:i=r
  ·subst e;exact h0
  ·rw[if_neg e]at fX;grind
 ·intro h i hi
  have en:(T.pivot r s).n=T.n:=rfl
  have em:(T.pivot r s).m=T.m:=rfl
  rw[em]at hi
  rw[en,Wv,h r hr,h i hi]
  split <;> grind
theorem Ww{T:aq}{r s:Nat}(hr:r<T.m)(x:Nat→Rat)(hx:T.pU x):(T.pivot r s).cost x=T.cost x:=by
 have e:(T.pivot r s).cost x=T.cost x-T.c s*(bo (T.n+1) (fun j=>T.A r j*x j)/T.A r s):=by
  unfold cost
  simp only[pivot]
  rw[Rat.div_def,←vd,←wT,←Gr]
  exact eK fun j _=>by grind
 rw[e,hx r hr];grind
structure o0(T:aq)(u r s:Nat):Prop where
 su:s<u
 neg:T.c s<0
 first:∀j,j<s→0≤T.c j
 rm:r<T.m
 pos:0<T.A r s
 least:∀i,i<T.m→0<T.A i s→T.A r T.n/T.A r s<T.A i T.n/T.A i s∨(T.A r T.n/T.A r s=T.A i T.n/T.A i s∧T.B r≤T.B i)
theorem PJ{a b:Rat}(ha:0≤a)(hb:0<b):0≤a/b:=by
 rw[Rat.div_def]
 have:0<b⁻¹:=Rat.inv_pos.2 hb
 exact Rat.mul_nonneg ha (Rat.le_of_lt this)
theorem Gt{T:aq}{u r s:Nat}(hf:T.j0)(hb:T.o0 u r s):(T.pivot r s).j0:=by
 intro i hi
 have fX:i<T.m:=hi
 have hr:=hf r hb.rm
 have uI:=hf i fX
 have hq:0≤T.A r T.n/T.A r s:=PJ hr hb.pos
 show 0≤(if i=r then T.A r T.n/T.A r s else T.A i T.n-T.A i s*(T.A r T.n/T.A r s))
 split
 ·exact hq
 ·by_cases hp:0<T.A i s
  ·have hl:T.A r T.n/T.A r s≤T.A i T.n/T.A i s:=by
    rcases hb.least i fX hp with h | h
    ·exact Rat.le_of_lt h
    ·rw[h.1];exact Rat.le_refl
   have h3:T.A i s*(T.A r T.n/T.A r s)≤T.A i s*(T.A i T.n/T.A i s):=Rat.mul_le_mul_of_nonneg_left hl (Rat.le_of_lt hp)
   have h4:T.A i s*(T.A i T.n/T.A i s)=T.A i T.n:=by grind
   grind
  ·have h5:0≤(- T.A i s)*(T.A r T.n/T.A r s):=Rat.mul_nonneg (by grind) hq
   grind
structure tF(u:Nat)(len:Nat) where
 T:Nat→aq
 r:Nat→Nat
 s:Nat→Nat
 wf:(T 0).WF
 cZ:(T 0).j0
 un:u≤(T 0).n
 step:∀k,k<len→(T k).o0 u (r k) (s k)
 next:∀k,k<len→T (k+1)=(T k).pivot (r k) (s k)
namespace tF
variable {u len:Nat} (R:tF u len)
theorem DM(k:Nat)(hk:k≤len):(R.T k).n=(R.T 0).n:=by
 induction k with
 | zero=>rfl
 | succ k ih=>rw[R.next k (by omega)];exact ih (by omega)
theorem sn{k:Nat}(hk:k<len):R.s k<(R.T k).n:=by
 have:=(R.step k hk).su
 have:=R.un
 rw[R.DM k (by omega)];omega
theorem yX(k:Nat)(hk:k≤len):(R.T k).WF:=by
 induction k with
 | zero=>exact R.wf
 | succ k ih=>
  rw[R.next k (by omega)]
  have hb:=R.step k (by omega)
  have:=hb.pos
  exact Bg (ih (by omega)) hb.rm (R.sn (by omega)) (by grind)
theorem afe(k:Nat)(hk:k≤len):(R.T k).j0:=by
 induction k with
 | zero=>exact R.cZ
 | succ k ih=>
  rw[R.next k (by omega)]
  exact Gt (ih (by omega)) (R.step k (by omega))
theorem Wx(k:Nat)(hk:k≤len)(x:Nat→Rat):(R.T k).pU x↔(R.T 0).pU x:=by
 induction k with
 | zero=>exact Iff.rfl
 | succ k ih=>
  rw[R.next k (by omega)]
  have hb:=R.step k (by omega)
  have:=hb.pos
  rw[PI hb.rm (by grind)]
  exact ih (by omega)
theorem Wy(k:Nat)(hk:k≤len)(x:Nat→Rat)(hx:(R.T 0).pU x):(R.T k).cost x=(R.T 0).cost x:=by
 induction k with
 | zero=>rfl
 | succ k ih=>
  rw[R.next k (by omega)]
  have hb:=R.step k (by omega)
  rw[Ww hb.rm x ((R.Wx k (by omega) x).2 hx)]
  exact ih (by omega)
def basic(k j:Nat):Prop:=∃i,i<(R.T k).m∧(R.T k).B i=j
def val(T:aq)(j:Nat):Rat:=bo T.m (fun i=>if T.B i=j then T.A i T.n else 0)
theorem PK{T:aq}(h:T.WF){i:Nat}(hi:i<T.m):val T (T.B i)=T.A i T.n:=by
 unfold val
 rw[rP hi,if_pos rfl]
 intro k hk aZ
 rw[if_neg]
 exact fun e=>aZ (h.inj hk hi e)
def vf(k:Nat):Prop:=(R.T k).A (R.r k) (R.T k).n=0
theorem Wz{k:Nat}(hk:k<len)(hd:R.vf k)(j:Nat):val (R.T (k+1)) j=val (R.T k) j:=by
 rw[R.next k hk]
 unfold val
 unfold vf at hd
 refine eK fun i hi=> ?_
 simp only[pivot]
 rw[hd]
 by_cases e:i=R.r k
 ·subst e;simp only[if_true,hd];grind
 ·simp only[if_neg e];grind
theorem WA{a b:Nat}(Bh:a≤b)(hb:b≤len)(hd:∀k,a≤k→k<b→R.vf k)(j:Nat):val (R.T b) j=val (R.T a) j:=by
 induction b with
 | zero=>obtain rfl:a=0:=by omega
         rfl
 | succ b ih=>
  by_cases e:a=b+1
  ·subst e;rfl
  ·rw[R.Wz (by omega) (hd b (by omega) (by omega))]
   exact ih (by omega) (by omega) (fun k h1 h2=>hd k h1 (by omega))
theorem Gu{k:Nat}(hk:k<len)(j:Nat):R.basic (k+1) j↔(j=R.s k∨(R.basic k j∧j≠(R.T k).B (R.r k))):=by
 unfold basic
 rw[R.next k hk]
 have hb:=R.step k hk
 have hw:=R.yX k (by omega)
 constructor
 ·rintro⟨i,hi,e⟩
  have fX:i<(R.T k).m:=hi
  have e':(if i=R.r k then R.s k else(R.T k).B i)=j:=e
  by_cases er:i=R.r k
  ·rw[if_pos er]at e';exact .inl e'.symm
  ·rw[if_neg er]at e'
   refine .inr ⟨⟨i,fX,e'⟩,fun h=>er (hw.inj fX hb.rm (by rw[e',h]))⟩
 ·rintro(h | ⟨⟨i,hi,e⟩,aZ⟩)
  ·refine⟨R.r k,hb.rm,?_⟩
   show (if R.r k=R.r k then R.s k else _)=j
   rw[if_pos rfl,h]
  ·refine⟨i,hi,?_⟩
   show (if i=R.r k then R.s k else(R.T k).B i)=j
   rw[if_neg,e]
   intro er;exact aZ (by rw[←e,er])
theorem PL{k:Nat}(hk:k<len):¬R.basic k (R.s k):=by
 rintro⟨i,hi,e⟩
 have:=(R.yX k (by omega)).zero i hi
 rw[e]at this
 have:=(R.step k hk).neg
 grind
theorem PM{k:Nat}(hk:k<len):R.basic k ((R.T k).B (R.r k)):=⟨_,(R.step k hk).rm,rfl⟩
theorem change{a b:Nat}(Bh:a≤b)(hb:b≤len)(j:Nat)(h:¬(R.basic a j↔R.basic b j)):
  ∃k,a≤k∧k<b∧(R.s k=j∨(R.T k).B (R.r k)=j):=by
 induction b with
 | zero=>obtain rfl:a=0:=by omega
         exact absurd Iff.rfl h
 | succ b ih=>
  by_cases e:a=b+1
  ·subst e;exact absurd Iff.rfl h
  ·by_cases h2:R.s b=j∨(R.T b).B (R.r b)=j
   ·exact⟨b,by omega,by omega,h2⟩
   ·have:R.basic (b+1) j↔R.basic b j:=by
     rw[R.Gu (by omega)]
     constructor
     ·rintro(h | h)
      ·exact absurd (.inl h.symm) h2
      ·exact h.1
     ·exact fun h=> .inr ⟨h,fun e=>h2 (.inr e.symm)⟩
    obtain⟨k,h3,h4,h5⟩:=ih (by omega) (by omega) (fun hh=>h (hh.trans this.symm))
    exact⟨k,h3,by omega,h5⟩
theorem val_zero{k:Nat}(hk:k<len)(hd:R.vf k){j:Nat}(h:R.s k=j∨(R.T k).B (R.r k)=j):val (R.T k) j=0:=by
 rcases h with h | h
 ·rw[←R.Wz hk hd]
  have e:j=(R.T (k+1)).B (R.r k):=by
   rw[R.next k hk]
   show j=if R.r k=R.r k then R.s k else _
   rw[if_pos rfl,h]
  rw[e,PK (R.yX (k+1) (by omega)) (by rw[R.next k hk];exact(R.step k hk).rm)]
  rw[R.next k hk]
  show (if R.r k=R.r k then(R.T k).A (R.r k) (R.T k).n/(R.T k).A (R.r k) (R.s k)else _)=0
  rw[if_pos rfl]
  unfold vf at hd
  rw[hd];grind
 ·rw[←h,PK (R.yX k (by omega)) (R.step k hk).rm]
  exact hd
theorem Ld{a b t p q:Nat}(hb:b≤len)(hd:∀k,a≤k→k<b→R.vf k)
  (hle:∀k,a≤k→k<b→R.s k≤t∧(R.T k).B (R.r k)≤t) (fF:a≤p) (dX:p<b) (cB:a≤q) (bU:q<b)
  (hp:(R.T p).B (R.r p)=t) (hq:R.s q=t):False:=by
 have bp:=R.step p (by omega)
 have bq:=R.step q (by omega)
 have wp:=R.yX p (by omega)
 have hs:R.s p<t:=by
  have h1:=(hle p fF dX).1
  have h2:R.s p≠t:=fun e=>R.PL (k:=p) (by omega) (by rw[e,←hp];exact R.PM (by omega))
  omega
 have mH:R.s p≤(R.T p).n:=Nat.le_of_lt (R.sn (by omega))
 have aff:=yW wp (R.s p) mH
 have WB:=(R.Wx p (by omega) _).1 aff
 have hc:=DL wp (R.s p) mH
 rw[R.Wy p (by omega) _ WB,←R.Wy q (by omega) _ WB]at hc
 have en:(R.T q).n=(R.T p).n:=by rw[R.DM p (by omega),R.DM q (by omega)]
 unfold cost at hc
 rw[en,DK _ wp.lt _ mH]at hc
 have iM:0≤(R.T q).c (R.s p):=bq.first _ (by rw[hq];exact hs)
 have fY:=bp.neg
 have DN:0<bo (R.T p).m (fun i=>(R.T q).c ((R.T p).B i)*(R.T p).A i (R.s p)):=by grind
 obtain⟨i,hi,wU⟩:=afd DN
 have Gq:¬R.basic q ((R.T p).B i):=by
  rintro⟨k,hk,e⟩
  have:=(R.yX q (by omega)).zero k hk
  rw[e]at this
  rw[this]at wU;grind
 have O3:R.basic p ((R.T p).B i):=⟨i,hi,rfl⟩
 have hex:∃k,a≤k∧k<b∧min p q≤k∧(R.s k=(R.T p).B i∨(R.T k).B (R.r k)=(R.T p).B i):=by
  rcases Nat.le_total p q with ni | ni
  ·obtain⟨k,h1,h2,h3⟩:=R.change ni (by omega) ((R.T p).B i) (fun h=>Gq (h.1 O3))
   exact⟨k,by omega,by omega,by omega,h3⟩
  ·obtain⟨k,h1,h2,h3⟩:=R.change ni (by omega) ((R.T p).B i) (fun h=>Gq (h.2 O3))
   exact⟨k,by omega,by omega,by omega,h3⟩
 obtain⟨k,gE,fN,_,dt⟩:=hex
 have pV:(R.T p).B i≤t:=by
  rcases dt with e | e
  ·rw[←e];exact(hle k gE fN).1
  ·rw[←e];exact(hle k gE fN).2
 have K7:val (R.T k) ((R.T p).B i)=0:=R.val_zero (by omega) (hd k gE fN) dt
 have WC:val (R.T p) ((R.T p).B i)=0:=by
  rcases Nat.le_total p k with h | h
  ·rw[←R.WA h (by omega) (fun x h1 h2=>hd x (by omega) (by omega))];exact K7
  ·rw[R.WA h (by omega) (fun x h1 h2=>hd x (by omega) (by omega))];exact K7
 rw[PK wp hi]at WC
 by_cases et:(R.T p).B i=t
 ·have:i=R.r p:=wp.inj hi bp.rm (by rw[et,hp])
  subst this
  have h1:=bq.neg
  rw[hq,←et]at h1
  have h2:=bp.pos
  have h3:(R.T q).c ((R.T p).B (R.r p))*(R.T p).A (R.r p) (R.s p)<0:=by
   have:=Rat.mul_pos (show 0 < -(R.T q).c ((R.T p).B (R.r p)) by grind) h2
   grind
  grind
 ·have bI:(R.T p).B i<t:=by omega
  have mE:0≤(R.T q).c ((R.T p).B i):=bq.first _ (by rw[hq];exact bI)
  have hA:0<(R.T p).A i (R.s p):=by
   false_or_by_contra
   rename_i hn
   have:0≤(R.T q).c ((R.T p).B i)*(-(R.T p).A i (R.s p)):=Rat.mul_nonneg mE (by grind)
   grind
  have PN:=hd p fF dX
  unfold vf at PN
  have e0:(0:Rat)/(R.T p).A (R.r p) (R.s p)=0:=by grind
  have e1:(0:Rat)/(R.T p).A i (R.s p)=0:=by grind
  rcases bp.least i hi hA with h | h
  ·rw[PN,WC,e0,e1]at h;exact absurd h (by decide)
  ·have:=h.2;omega
theorem short(t:Nat):∀a b,a≤b→b≤len→(∀k,a≤k→k<b→R.vf k)→
  (∀k,a≤k→k<b→R.s k<t∧(R.T k).B (R.r k)<t)→b<a+2^t:=by
 induction t with
 | zero=>
  intro a b Bh hb hd bI
  by_cases e:a=b
  ·subst e;simp
  ·have:=bI a (Nat.le_refl _) (by omega);omega
 | succ t ih=>
  intro a b Bh hb hd bI
  have hle:∀k,a≤k→k<b→R.s k≤t∧(R.T k).B (R.r k)≤t:=fun k h1 h2=>by
   have:=bI k h1 h2;omega
  have h2:2^(t+1)=2^t+2^t:=by rw[Nat.pow_succ];omega
  have wU:0<2^t:=Nat.pow_pos (by omega)
  have once:∀k l,a≤k→k<l→l<b→(R.s k=t∨(R.T k).B (R.r k)=t)→¬(R.s l=t∨(R.T l).B (R.r l)=t):=by
   intro k l hk PO hl iK kN
   rcases iK with iK | iK
   ·
    have dG:R.s l=t:=by
     rcases kN with h | h
     ·exact h
     ·exact(R.Ld hb hd hle (p:=l) (q:=k) (by omega) (by omega) (by omega) (by omega) h iK).elim
    have yY:R.basic (k+1) t:=(R.Gu (by omega) t).2 (.inl iK.symm)
    have kG:¬R.basic l t:=by rw[←dG];exact R.PL (by omega)
    obtain⟨x,h1,h2,h3⟩:=R.change (a:=k+1) (b:=l) (by omega) (by omega) t (fun h=>kG (h.1 yY))
    have hx:∀y,k+1≤y→y≤l→R.basic y t:=by
     intro y hy
     induction y with
     | zero=>omega
     | succ y PQ=>
      intro kD
      by_cases e:k=y
      ·subst e;exact yY
      ·have:=PQ (by omega) (by omega)
       refine(R.Gu (by omega) t).2 (.inr ⟨this,fun e=> ?_⟩)
       exact R.Ld hb hd hle (p:=y) (q:=k) (by omega) (by omega) (by omega) (by omega) e.symm iK
    exact kG (hx l (by omega) (Nat.le_refl _))
   ·have dG:(R.T l).B (R.r l)=t:=by
     rcases kN with h | h
     ·exact(R.Ld hb hd hle (p:=k) (q:=l) (by omega) (by omega) (by omega) (by omega) iK h).elim
     ·exact h
    have yY:¬R.basic (k+1) t:=by
     rw[R.Gu (by omega) t]
     rintro(h | h)
     ·exact R.PL (k:=k) (by omega) (by rw[←h,←iK];exact R.PM (by omega))
     ·exact h.2 iK.symm
    have kG:R.basic l t:=by rw[←dG];exact R.PM (by omega)
    have hx:∀y,k+1≤y→y≤l→¬R.basic y t:=by
     intro y hy
     induction y with
     | zero=>omega
     | succ y PQ=>
      intro kD
      by_cases e:k=y
      ·subst e;exact yY
      ·have:=PQ (by omega) (by omega)
       rw[R.Gu (by omega) t]
       rintro(h | h)
       ·exact R.Ld hb hd hle (p:=k) (q:=y) (by omega) (by omega) (by omega) (by omega) iK h.symm
       ·exact this h.1
    exact hx l (by omega) (Nat.le_refl _) kG
  by_cases hex:∃k,a≤k∧k<b∧(R.s k=t∨(R.T k).B (R.r k)=t)
  ·obtain⟨k,gE,fN,dt⟩:=hex
   have h3:=ih a k (by omega) (by omega) (fun x h1 h2=>hd x h1 (by omega)) (fun x h1 h2=>by
    have hl:=hle x h1 (by omega)
    have hn:¬(R.s x=t∨(R.T x).B (R.r x)=t):=fun h=>once x k h1 h2 fN h dt
    omega)
   have h4:=ih (k+1) b (by omega) hb (fun x h1 h2=>hd x (by omega) h2) (fun x h1 h2=>by
    have hl:=hle x (by omega) h2
    have hn:=once k x gE (by omega) h2 dt
    omega)
   omega
  ·have h3:=ih a b Bh hb hd (fun x h1 h2=>by
    have hl:=hle x h1 h2
    have hn:¬(R.s x=t∨(R.T x).B (R.r x)=t):=fun h=>hex ⟨x,h1,h2,h⟩
    omega)
   omega
end tF
end aq
end Lp
namespace Lp
namespace aq
structure j5(T S:aq):Prop where
 m:S.m=T.m
 n:S.n=T.n
 nR:∀x,S.pU x↔T.pU x
 cost:∀x,T.pU x→S.cost x=T.cost x
theorem j5.symm{T S:aq}(h:j5 T S):j5 S T:=⟨h.m.symm,h.n.symm,fun x=>(h.nR x).symm,fun x hx=>(h.cost x ((h.nR x).1 hx)).symm⟩
theorem j5.trans{T S R:aq}(h:j5 T S)(h':j5 S R):j5 T R:=
 ⟨h'.m.trans h.m,h'.n.trans h.n,fun x=>(h'.nR x).trans (h.nR x),fun x hx=>(h'.cost x ((h.nR x).2 hx)).trans (h.cost x hx)⟩
theorem j5.pivot{T:aq}{r s:Nat}(hr:r<T.m)(hp:T.A r s≠0):j5 T (T.pivot r s):=
 ⟨rfl,rfl,fun x=>PI hr hp x,fun x hx=>Ww hr x hx⟩
theorem afg{T S:aq}(h:j5 T S)(hT:T.WF)(hS:S.WF)(hB:∀i,i<T.m→S.B i=T.B i):S.c S.n=T.c T.n:=by
 have h1:=yW hT T.n (Nat.le_refl _)
 have h2:=h.cost _ h1
 rw[DL hT T.n (Nat.le_refl _)]at h2
 unfold cost at h2
 rw[h.n,DK T hT.lt _ (Nat.le_refl _),mG]at h2
 ·rw[h.n];grind
 ·intro i hi
  rw[←hB i hi,hS.zero i (by rw[h.m];exact hi)];grind
def Gv(n:Nat):Nat→List (List Nat)
 | 0=>[[]]
 | m+1=>(Gv n m).flatMap fun l=>(List.range n).map fun j=>l ++ [j]
theorem afh(n m:Nat)(f:Nat→Nat)(h:∀i,i<m→f i<n):(List.range m).map f∈Gv n m:=by
 induction m with
 | zero=>simp[Gv]
 | succ m ih=>
  simp only[Gv,List.mem_flatMap,List.mem_map,List.mem_range]
  exact⟨_,ih (fun i hi=>h i (by omega)),f m,h m (by omega),by rw[List.range_succ,List.map_append];rfl⟩
theorem WD{α:Type}(p q:α→Bool)(l:List α)(h:∀x,x∈l→p x=true→q x=true)
  (hx:∃x,x∈l∧q x=true∧p x=false):l.countP p<l.countP q:=by
 induction l with
 | nil=>obtain⟨x,hx,_⟩:=hx;cases hx
 | cons a l ih=>
  have hle:l.countP p≤l.countP q:=List.countP_mono_left fun x hx hp=>h x (List.mem_cons_of_mem _ hx) hp
  rw[List.countP_cons,List.countP_cons]
  obtain⟨x,eV,eP,gA⟩:=hx
  rcases List.mem_cons.1 eV with e | e
  ·subst e
   rw[eP,gA];simp;omega
  ·have:=ih (fun y hy=>h y (List.mem_cons_of_mem _ hy)) ⟨x,e,eP,gA⟩
   have ha:=h a (List.mem_cons_self ..)
   cases hp:p a
   ·simp;omega
   ·rw[ha hp];simp;omega
def Le(T:aq)(l:List Nat):Prop:=∃S:aq,S.WF∧j5 T S∧(List.range T.m).map S.B=l∧T.c T.n<S.c S.n
open Classical in
noncomputable def wV(T:aq):Nat:=(Gv T.n T.m).countP fun l=>decide (Le T l)
theorem Le.of{T S:aq}(h:j5 T S)(hv:T.c T.n≤S.c S.n){l:List Nat}(hb:Le S l):Le T l:=by
 obtain⟨R,h1,h2,h3,h4⟩:=hb
 refine⟨R,h1,h.trans h2,by rw[←h.m];exact h3,by grind⟩
open Classical in
theorem afi{T S:aq}(h:j5 T S)(hv:T.c T.n≤S.c S.n):wV S≤wV T:=by
 unfold wV
 rw[h.m,h.n]
 exact List.countP_mono_left fun l _ hp=>by
  have:=of_decide_eq_true hp
  exact decide_eq_true (this.of h hv)
open Classical in
theorem afj{T S:aq}(h:j5 T S)(hS:S.WF)(hv:T.c T.n<S.c S.n):wV S<wV T:=by
 unfold wV
 rw[h.m,h.n]
 refine WD _ _ _ (fun l _ hp=> ?_) ⟨(List.range T.m).map S.B,?_,?_,?_⟩
 ·have:=of_decide_eq_true hp
  exact decide_eq_true (this.of h (Rat.le_of_lt hv))
 ·exact afh _ _ _ (fun i hi=>by rw[←h.n];exact hS.lt i (by rw[h.m];exact hi))
 ·exact decide_eq_true ⟨S,hS,h,rfl,hv⟩
 ·refine decide_eq_false ?_
  rintro⟨R,h1,h2,h3,h4⟩
  have:R.c R.n=S.c S.n:=afg h2 hS h1 (fun i hi=>by
   rw[h.m]at h3 hi
   exact List.map_inj_left.1 h3 i (List.mem_range.2 hi))
  grind
theorem afk{T:aq}{u r s:Nat}(hf:T.j0)(hb:T.o0 u r s):
  T.c T.n≤(T.pivot r s).c (T.pivot r s).n∧(T.A r T.n≠0→T.c T.n<(T.pivot r s).c (T.pivot r s).n):=by
 have e:(T.pivot r s).c (T.pivot r s).n=T.c T.n-T.c s*(T.A r T.n/T.A r s):=rfl
 rw[e]
 have hq:=PJ (hf r hb.rm) hb.pos
 have hn:=hb.neg
 constructor
 ·have:=Rat.mul_nonneg (show 0≤- T.c s by grind) hq
  grind
 ·intro h0
  have hp:0<T.A r T.n/T.A r s:=by
   have wU:=hb.pos
   have:T.A r T.n/T.A r s≠0:=fun h=>h0 (by
    have:T.A r T.n/T.A r s*T.A r s=T.A r T.n:=by grind
    grind)
   grind
  have:=Rat.mul_pos (show 0 < - T.c s by grind) hp
  grind
def Step(u:Nat)(S T:aq):Prop:=∃r s,T.o0 u r s∧S=T.pivot r s
def tF.nil{u:Nat}(T:aq)(hw:T.WF)(hf:T.j0)(hu:u≤T.n):tF u 0:=
 {T:=fun _=>T,r:=fun _=>0,s:=fun _=>0,wf:=hw,cZ:=hf,un:=hu
  step:=fun k hk=>absurd hk (by omega),next:=fun k hk=>absurd hk (by omega)}
def tF.snoc{u h:Nat}(R:tF u h)(r s:Nat)(hb:(R.T h).o0 u r s):tF u (h+1):=
 {T:=fun k=>if k≤h then R.T k else(R.T h).pivot r s
  r:=fun k=>if k<h then R.r k else r
  s:=fun k=>if k<h then R.s k else s
  wf:=by simpa using R.wf
  cZ:=by simpa using R.cZ
  un:=by simpa using R.un
  step:=fun k hk=>by
   simp only[show k≤h by omega,if_true]
   by_cases e:k<h
   ·simp only[e,if_true];exact R.step k e
   ·simp only[e,if_false]
    obtain rfl:k=h:=by omega
    exact hb
  next:=fun k hk=>by
   simp only[show k≤h by omega,if_true]
   by_cases e:k<h
   ·simp only[e,if_true,show k+1≤h by omega];exact R.next k e
   ·simp only[e,if_false]
    obtain rfl:k=h:=by omega
    simp only[show ¬(k+1≤k) by omega,if_false]}
theorem ends(u:Nat):∀(v:Nat)(T:aq),T.WF→T.j0→u≤T.n→wV T≤v→Acc (Step u) T:=by
 intro v
 induction v using Nat.strongRecOn with
 | _ v ih=>
  intro T hw hf hu hv
  have key:∀d h (R:tF u h),(∀k,k<h→R.vf k)→wV (R.T h)≤v→2^(R.T 0).n≤h+d→Acc (Step u) (R.T h):=by
   intro d
   induction d with
   | zero=>
    intro h R hd hr hp
    have:=R.short (R.T 0).n 0 h (by omega) (Nat.le_refl _) (fun k _ hk=>hd k hk) (fun k _ hk=>by
     refine⟨?_,?_⟩
     ·have:=R.sn hk
      rw[R.DM k (by omega)]at this;exact this
     ·have:=(R.yX k (by omega)).lt _ (R.step k hk).rm
      rw[R.DM k (by omega)]at this;exact this)
    omega
   | succ d ihd=>
    intro h R hd hr hp
    refine Acc.intro _ fun S hS=> ?_
    obtain⟨r,s,hb,rfl⟩:=hS
    have PR:=R.yX h (Nat.le_refl _)
    have Bi:=R.afe h (Nat.le_refl _)
    have pR:u≤(R.T h).n:=by rw[R.DM h (Nat.le_refl _)];exact R.un
    have wU:=hb.pos
    have aZ:(R.T h).A r s≠0:=by grind
    have mH:s<(R.T h).n:=by have:=hb.su;omega
    have qD:=j5.pivot hb.rm aZ
    have vg:=afk Bi hb
    by_cases h0:(R.T h).A r (R.T h).n=0
    ·have e:(R.snoc r s hb).T (h+1)=(R.T h).pivot r s:=by
      show (if h+1≤h then _ else _)=_
      rw[if_neg (by omega)]
     rw[←e]
     refine ihd (h+1) (R.snoc r s hb) (fun k hk=> ?_) ?_ ?_
     ·unfold tF.vf
      have e1:(R.snoc r s hb).T k=R.T k:=by
       show (if k≤h then _ else _)=_
       rw[if_pos (by omega)]
      rw[e1]
      by_cases ek:k<h
      ·have e2:(R.snoc r s hb).r k=R.r k:=by
        show (if k<h then _ else _)=_
        rw[if_pos ek]
       rw[e2];exact hd k ek
      ·obtain rfl:k=h:=by omega
       have e2:(R.snoc r s hb).r k=r:=by
        show (if k<k then _ else _)=_
        rw[if_neg (by omega)]
       rw[e2];exact h0
     ·rw[e];exact Nat.le_trans (afi qD vg.1) hr
     ·have e3:(R.snoc r s hb).T 0=R.T 0:=by
       show (if 0≤h then R.T 0 else(R.T h).pivot r s)=_
       rw[if_pos (by omega)]
      rw[e3];omega
    ·have bI:=afj qD (Bg PR hb.rm mH aZ) (vg.2 h0)
     exact ih (wV ((R.T h).pivot r s)) (by omega) _ (Bg PR hb.rm mH aZ) (Gt Bi hb) pR (Nat.le_refl _)
  have:=key (2^T.n) 0 (tF.nil T hw hf hu) (fun k hk=>absurd hk (by omega)) hv (by
   show 2^T.n≤0+2^T.n
   omega)
  exact this
theorem PS{u:Nat}{T:aq}(hw:T.WF)(hf:T.j0)(hu:u≤T.n):Acc (Step u) T:=ends u _ T hw hf hu (Nat.le_refl _)
end aq
end Lp
namespace Lp
structure LP where
 n:Nat
 m:Nat
 free:Nat→Bool
 a:Nat→Nat→Rat
 rel:Nat→Int
 b:Nat→Rat
def Bj(r:Int)(x:Rat):Prop:=(r=1→x≤0)∧(r=2→x=0)∧(r=3→0≤x)
def bK(n:Nat)(c x:Nat→Rat):Rat:=bo n (fun j=>c j*x j)
namespace LP
variable (p:LP)
def Valid:Prop:=∀i,i<p.m→p.rel i=1∨p.rel i=2∨p.rel i=3
def dH(t:Rat)(x:Nat→Rat):Prop:=(∀j,j<p.n→p.free j=false→0≤x j)∧∀i,i<p.m→Bj (p.rel i) (bK p.n (p.a i) x-p.b i*t)
def Signed(y:Nat→Rat):Prop:=∀i,i<p.m→(p.rel i=3→0≤y i)∧(p.rel i=1→y i≤0)
def j6(y:Nat→Rat)(j:Nat):Rat:=bo p.m (fun i=>y i*p.a i j)
def vh(y:Nat→Rat):Rat:=bo p.m (fun i=>y i*p.b i)
structure yZ(c x y:Nat→Rat):Prop where
 cZ:p.dH 1 x
 signed:p.Signed y
 iu:∀j,j<p.n→0≤c j-p.j6 y j∧(p.free j=true→c j-p.j6 y j≤0)
 eq:p.vh y=bK p.n c x
structure y5(y:Nat→Rat):Prop where
 signed:p.Signed y
 iu:∀j,j<p.n→p.j6 y j≤0∧(p.free j=true→0≤p.j6 y j)
 pos:0<p.vh y
structure y6(c x r:Nat→Rat):Prop where
 cZ:p.dH 1 x
 ray:p.dH 0 r
 neg:bK p.n c r<0
def rQ:Prop:=∀x,¬p.dH 1 x
def vi(c:Nat→Rat)(v:Rat):Prop:=(∃x,p.dH 1 x∧bK p.n c x=v)∧∀x,p.dH 1 x→v≤bK p.n c x
def wW(c:Nat→Rat):Prop:=(∃x,p.dH 1 x)∧∀v,∃x,p.dH 1 x∧bK p.n c x<v
end LP
theorem WE(n:Nat)(c x y:Nat→Rat):bK n c (fun j=>x j+y j)=bK n c x+bK n c y:=by
 unfold bK
 rw[←PG]
 exact eK fun j _=>by grind
theorem WG(n:Nat)(c x:Nat→Rat)(k:Rat):bK n c (fun j=>k*x j)=k*bK n c x:=by
 unfold bK
 rw[←wT]
 exact eK fun j _=>by grind
theorem afl{n:Nat}{c c' x x':Nat→Rat}(h:∀j,j<n→c j=c' j)(h':∀j,j<n→x j=x' j):bK n c x=bK n c' x':=
 eK fun j hj=>by rw[h j hj,h' j hj]
namespace LP
variable {p:LP}
theorem afm(p:LP)(y x:Nat→Rat):bK p.n (p.j6 y) x=bo p.m (fun i=>y i*bK p.n (p.a i) x):=by
 unfold bK j6
 have h1:∀j,bo p.m (fun i=>y i*p.a i j)*x j=bo p.m (fun i=>y i*p.a i j*x j):=fun j=>(vd _ _ _).symm
 have h2:∀i,y i*bo p.n (fun j=>p.a i j*x j)=bo p.n (fun j=>y i*p.a i j*x j):=fun i=>by
  rw[←wT]
  exact eK fun j _=>by grind
 rw[eK (fun j _=>h1 j),eK (fun i _=>h2 i),Lb]
theorem WH(hv:p.Valid){t:Rat}{x y:Nat→Rat}(hx:p.dH t x)(hy:p.Signed y):p.vh y*t≤bK p.n (p.j6 y) x:=by
 rw[afm]
 unfold vh
 rw[←vd]
 refine Lc fun i hi=> ?_
 have h1:=hx.2 i hi
 have h2:=hy i hi
 rcases hv i hi with e | e | e
 ·have h3:=h1.1 e
  have h4:=h2.2 e
  have h5:0≤(- y i)*(- (bK p.n (p.a i) x-p.b i*t)):=Rat.mul_nonneg (by grind) (by grind)
  grind
 ·have h3:=h1.2.1 e
  have:bK p.n (p.a i) x=p.b i*t:=by grind
  rw[this];grind
 ·have h3:=h1.2.2 e
  have h4:=h2.1 e
  have h5:0≤y i*(bK p.n (p.a i) x-p.b i*t):=Rat.mul_nonneg h4 h3
  grind
theorem y5.isInf(hv:p.Valid){y:Nat→Rat}(h:p.y5 y):p.rQ:=fun x hx=>by
 have h1:=WH hv hx h.signed
 have h2:bK p.n (p.j6 y) x≤0:=by
  have:bK p.n (p.j6 y) x≤bo p.n (fun _=>0):=Lc fun j hj=>by
   have h3:=h.iu j hj
   cases hf:p.free j with
   | true=>have h4:=h3.2 hf;have:p.j6 y j=0:=by grind
           rw[this];grind
   | false=>
    have h5:=hx.1 j hj hf
    have:0≤(- p.j6 y j)*x j:=Rat.mul_nonneg (by grind) h5
    grind
  rwa [La]at this
 have:=h.pos
 grind
theorem below{c x y:Nat→Rat}(hv:p.Valid)(hx:p.dH 1 x)(hy:p.Signed y)(hc:∀j,j<p.n→0≤c j-p.j6 y j∧(p.free j=true→c j-p.j6 y j≤0)):p.vh y≤bK p.n c x:=by
 have h1:=WH hv hx hy
 have h2:bK p.n (p.j6 y) x≤bK p.n c x:=Lc fun j hj=>by
  have h3:=hc j hj
  cases hf:p.free j with
  | true=>have h4:=h3.2 hf;have:p.j6 y j=c j:=by grind
          rw[this];exact Rat.le_refl
  | false=>
   have h5:=hx.1 j hj hf
   have:0≤(c j-p.j6 y j)*x j:=Rat.mul_nonneg h3.1 h5
   grind
 grind
theorem yZ.Lf(hv:p.Valid){c x y:Nat→Rat}(h:p.yZ c x y):p.vi c (bK p.n c x):=
 ⟨⟨x,h.cZ,rfl⟩,fun x' s4=>by rw[←h.eq];exact below hv s4 h.signed h.iu⟩
theorem afn{r:Int}{x y:Rat}(hx:Bj r x)(hy:Bj r y):Bj r (x+y):=
 ⟨fun e=>by have:=hx.1 e;have:=hy.1 e;grind,fun e=>by have:=hx.2.1 e;have:=hy.2.1 e;grind,fun e=>by have:=hx.2.2 e;have:=hy.2.2 e;grind⟩
theorem afo{r:Int}{x k:Rat}(hx:Bj r x)(hk:0≤k):Bj r (k*x):=
 ⟨fun e=>by have:=hx.1 e;have:0≤k*(-x):=Rat.mul_nonneg hk (by grind)
            grind,fun e=>by have:=hx.2.1 e;rw[this];grind,fun e=>Rat.mul_nonneg hk (hx.2.2 e)⟩
theorem dH.move{t:Rat}{x r:Nat→Rat}(hx:p.dH t x)(hr:p.dH 0 r){k:Rat}(hk:0≤k):p.dH t (fun j=>x j+k*r j):=by
 refine⟨fun j hj hf=> ?_,fun i hi=> ?_⟩
 ·have h1:=hx.1 j hj hf
  have h2:=Rat.mul_nonneg hk (hr.1 j hj hf)
  grind
 ·have h1:=afn (hx.2 i hi) (afo (hr.2 i hi) hk)
  rw[WE,WG]
  have e:bK p.n (p.a i) x-p.b i*t+k*(bK p.n (p.a i) r-p.b i*0)=bK p.n (p.a i) x+k*bK p.n (p.a i) r-p.b i*t:=by grind
  rwa [e]at h1
theorem y6.PT{c x r:Nat→Rat}(h:p.y6 c x r):p.wW c:=by
 refine⟨⟨x,h.cZ⟩,fun v=> ?_⟩
 have hn:=h.neg
 by_cases hv:bK p.n c x<v
 ·exact⟨x,h.cZ,hv⟩
 ·have hd:0 < - bK p.n c r:=by grind
  have hq:0≤(bK p.n c x-v)/(- bK p.n c r):=aq.PJ (by grind) hd
  refine⟨_,h.cZ.move h.ray (k:=(bK p.n c x-v)/(- bK p.n c r)+1) (by grind),?_⟩
  rw[WE,WG]
  have e:(bK p.n c x-v)/(- bK p.n c r)*(- bK p.n c r)=bK p.n c x-v:=by grind
  grind
theorem afp{c:Nat→Rat}{v:Rat}(h:p.vi c v)(k:p.wW c):False:=by
 obtain⟨x,hx,bI⟩:=k.2 v
 have:=h.2 x hx
 grind
theorem afq{c:Nat→Rat}{v w:Rat}(h:p.vi c v)(k:p.vi c w):v=w:=by
 obtain⟨⟨x,hx,rfl⟩,h2⟩:=h
 obtain⟨⟨y,hy,rfl⟩,k2⟩:=k
 have h3:=h2 y hy
 have h4:=k2 x hx
 grind
end LP
def ia(f:Nat→Rat):Option Nat→Rat
 | some k=>f k
 | none=>0
structure dB(p:LP)(A:Nat→Nat→Rat)(w u:Nat)(plus:Nat→Nat)(minus slack:Nat→Option Nat)(unit:Nat→Nat)(sg:Nat→Rat):Prop where
 valid:p.Valid
 uw:u≤w
 WI:∀i,i<p.m→sg i=1∨sg i = -1
 rhs:∀i,i<p.m→A i w=p.b i*sg i∧0≤A i w
 pl:∀j,j<p.n→plus j<u∧∀i,i<p.m→A i (plus j)=p.a i j*sg i
 mi:∀j,j<p.n→(p.free j=false→minus j=none)∧∀k,minus j=some k→k<u∧∀i,i<p.m→A i k = - (p.a i j*sg i)
 PU:∀j,j<p.n→p.free j=true→∃k,minus j=some k
 sl:∀i,i<p.m→(p.rel i=2→slack i=none)∧(p.rel i≠2→∃k,slack i=some k)∧∀k,slack i=some k→k<u∧∀q,q<p.m→A q k=if q=i then(if p.rel i=1 then sg i else-sg i)else 0
 un:∀i,i<p.m→unit i<w∧∀q,q<p.m→A q (unit i)=if q=i then 1 else 0
 sum:∀f,bo u f=bo p.n (fun j=>f (plus j)+ia f (minus j))+bo p.m (fun i=>ia f (slack i))
namespace dB
variable {p:LP} {A:Nat→Nat→Rat} {w u:Nat} {plus:Nat→Nat} {minus slack:Nat→Option Nat} {unit:Nat→Nat} {sg:Nat→Rat}
theorem WJ{u w:Nat}(h:u≤w)(f:Nat→Rat)(h0:∀j,u≤j→j<w→f j=0):bo w f=bo u f:=by
 induction w with
 | zero=>obtain rfl:u=0:=by omega
         rfl
 | succ w ih=>
  by_cases e:u=w+1
  ·rw[e]
  ·rw[fW,ih (by omega) (fun j h1 h2=>h0 j h1 (by omega)),h0 w (by omega) (by omega)];grind
def vec(plus:Nat→Nat)(minus:Nat→Option Nat)(z:Nat→Rat)(j:Nat):Rat:=z (plus j)-ia z (minus j)
theorem meets(L:dB p A w u plus minus slack unit sg){z:Nat→Rat}{t:Rat}(hs:∀i,i<p.m→bo (w+1) (fun j=>A i j*z j)=0)(hw:z w = - t)
  (hn:∀j,j<u→0≤z j) (ha:∀j,u≤j→j<w→z j=0):p.dH t (vec plus minus z):=by
 refine⟨fun j hj hf=> ?_,fun i hi=> ?_⟩
 ·unfold vec
  rw[(L.mi j hj).1 hf]
  have:=hn _ (L.pl j hj).1
  simp only[ia];grind
 ·have h1:=hs i hi
  rw[fW,hw,WJ L.uw _ (fun j h1 h2=>by rw[ha j h1 h2];grind),L.sum]at h1
  have h2:bo p.n (fun j=>A i (plus j)*z (plus j)+ia (fun k=>A i k*z k) (minus j))=bK p.n (p.a i) (vec plus minus z)*sg i:=by
   unfold bK
   rw[←vd]
   refine eK fun j hj=> ?_
   rw[(L.pl j hj).2 i hi]
   unfold vec
   cases hm:minus j with
   | none=>simp only[ia];grind
   | some k=>
    have:=((L.mi j hj).2 k hm).2 i hi
    simp only[ia,this];grind
  rw[h2]at h1
  have h3:bo p.m (fun q=>ia (fun k=>A i k*z k) (slack q))=ia (fun k=>A i k*z k) (slack i):=by
   refine rP hi _ fun q hq aZ=> ?_
   cases hm:slack q with
   | none=>rfl
   | some k=>
    have:=((L.sl q hq).2.2 k hm).2 i hi
    rw[if_neg (fun e=>aZ e.symm)]at this
    simp only[ia,this];grind
  rw[h3,(L.rhs i hi).1]at h1
  have lX:=L.WI i hi
  have fH:=L.sl i hi
  have key:∀s:Rat,bK p.n (p.a i) (vec plus minus z)*sg i+s*sg i+p.b i*sg i * -t=0→bK p.n (p.a i) (vec plus minus z)-p.b i*t = - s:=by
   intro s hs
   rcases lX with e | e <;> rw[e]at hs <;> grind
  rcases L.valid i hi with e | e | e
  ·obtain⟨k,hk⟩:=fH.2.1 (by omega)
   have h4:=fH.2.2 k hk
   have h5:=h4.2 i hi
   rw[if_pos rfl,if_pos e]at h5
   have h6:=hn k h4.1
   rw[hk]at h1
   simp only[ia,h5]at h1
   have h7:=key (z k) (by grind)
   exact⟨fun _=>by grind,fun e'=>by omega,fun e'=>by omega⟩
  ·rw[fH.1 e]at h1
   simp only[ia]at h1
   have h7:=key 0 (by grind)
   exact⟨fun e'=>by omega,fun _=>by grind,fun e'=>by omega⟩
  ·obtain⟨k,hk⟩:=fH.2.1 (by omega)
   have h4:=fH.2.2 k hk
   have h5:=h4.2 i hi
   rw[if_pos rfl,if_neg (by omega)]at h5
   have h6:=hn k h4.1
   rw[hk]at h1
   simp only[ia,h5]at h1
   have h7:=key (- z k) (by grind)
   exact⟨fun e'=>by omega,fun e'=>by omega,fun _=>by grind⟩
def tG(A:Nat→Nat→Rat)(m w:Nat)(c0 c:Nat→Rat):Prop:=∃l:Nat→Rat,∀j,j≤w→c j=c0 j-bo m (fun k=>l k*A k j)
section
variable (L:dB p A w u plus minus slack unit sg) {c0 c:Nat→Rat} (ho:tG A p.m w c0 c)
include L ho
theorem PV:(∀j,j<p.n→p.j6 (fun i=>sg i*(c0 (unit i)-c (unit i))) j=c0 (plus j)-c (plus j)∧∀k,minus j=some k→p.j6 (fun i=>sg i*(c0 (unit i)-c (unit i))) j=c k-c0 k)
  ∧p.vh (fun i=>sg i*(c0 (unit i)-c (unit i)))=c0 w-c w∧(∀i,i<p.m→∀k,slack i=some k→sg i*(c0 (unit i)-c (unit i))=if p.rel i=1 then c0 k-c k else c k-c0 k):=by
 obtain⟨l,hl⟩:=ho
 have hu:∀i,i<p.m→c0 (unit i)-c (unit i)=l i:=fun i hi=>by
  have h1:=L.un i hi
  rw[hl _ (by omega),rP hi (fun k=>l k*A k (unit i)) (fun q hq aZ=>by rw[h1.2 q hq,if_neg aZ];grind),h1.2 i hi,if_pos rfl];grind
 refine⟨fun j hj=>⟨?_,fun k hk=> ?_⟩,?_,fun i hi k hk=> ?_⟩
 ·have h1:=L.pl j hj
  have bI:=L.uw
  rw[hl _ (by omega)]
  unfold LP.j6
  rw[eK (g:=fun k=>l k*A k (plus j)) (fun i hi=>by show sg i*(c0 (unit i)-c (unit i))*_=_;rw[hu i hi,h1.2 i hi];grind)]
  grind
 ·have h1:=(L.mi j hj).2 k hk
  have bI:=L.uw
  rw[hl _ (by omega)]
  unfold LP.j6
  rw[eK (g:=fun q=> - (l q*A q k)) (fun i hi=>by show sg i*(c0 (unit i)-c (unit i))*_=_;rw[hu i hi,h1.2 i hi];grind),K9]
  grind
 ·rw[hl _ (Nat.le_refl _)]
  unfold LP.vh
  rw[eK (g:=fun k=>l k*A k w) (fun i hi=>by show sg i*(c0 (unit i)-c (unit i))*_=_;rw[hu i hi,(L.rhs i hi).1];grind)]
  grind
 ·have h1:=(L.sl i hi).2.2 k hk
  have bI:=L.uw
  rw[hu i hi,hl k (by omega),rP hi (fun q=>l q*A q k) (fun q hq aZ=>by rw[h1.2 q hq,if_neg aZ];grind),h1.2 i hi,if_pos rfl]
  split <;> grind
theorem WK(h0:∀i,i<p.m→∀k,slack i=some k→c0 k=0)(hn:∀j,j<u→0≤c j):p.Signed (fun i=>sg i*(c0 (unit i)-c (unit i))):=fun i hi=>by
 have h1:=(PV L ho).2.2 i hi
 refine⟨fun e=> ?_,fun e=> ?_⟩
 ·obtain⟨k,hk⟩:=(L.sl i hi).2.1 (by omega)
  have h2:=h1 k hk
  have h3:=hn k ((L.sl i hi).2.2 k hk).1
  rw[if_neg (by omega),h0 i hi k hk]at h2
  simp only[h2];grind
 ·obtain⟨k,hk⟩:=(L.sl i hi).2.1 (by omega)
  have h2:=h1 k hk
  have h3:=hn k ((L.sl i hi).2.2 k hk).1
  rw[if_pos e,h0 i hi k hk]at h2
  simp only[h2];grind
theorem afr(h0:∀j,j<u→c0 j=0)(hw:c0 w=0)(hn:∀j,j<u→0≤c j)(fY:c w<0):p.y5 (fun i=>sg i*(c0 (unit i)-c (unit i))):=by
 have hd:=PV L ho
 refine⟨WK L ho (fun i hi k hk=>h0 k ((L.sl i hi).2.2 k hk).1) hn,fun j hj=>⟨?_,fun hf=> ?_⟩,?_⟩
 ·have h1:=L.pl j hj
  rw[(hd.1 j hj).1,h0 _ h1.1]
  have:=hn _ h1.1
  grind
 ·obtain⟨k,hk⟩:=L.PU j hj hf
  have h1:=(L.mi j hj).2 k hk
  rw[(hd.1 j hj).2 k hk,h0 k h1.1]
  have:=hn _ h1.1
  grind
 ·rw[hd.2.1,hw];grind
end
end dB
end Lp
namespace Lp
namespace aq
structure Rows(A:Nat→Nat→Rat)(m' w:Nat)(T:aq):Prop where
 m:T.m=m'
 n:T.n=w
 mul:∃R:Nat→Nat→Rat,∀i,i<m'→∀j,j≤w→T.A i j=bo m' (fun k=>R i k*A k j)
 nR:∀x,T.pU x↔∀i,i<m'→bo (w+1) (fun j=>A i j*x j)=0
section
variable {A:Nat→Nat→Rat} {m w:Nat} {T:aq}
theorem afs(hA:∀i j,T.A i j=A i j)(hm:T.m=m)(hn:T.n=w):Rows A m w T:=by
 refine⟨hm,hn,⟨fun i k=>if k=i then 1 else 0,fun i hi j _=> ?_⟩,fun x=> ?_⟩
 ·rw[rP hi (fun k=>(if k=i then 1 else 0)*A k j) (fun q _ aZ=>by rw[if_neg aZ];grind),if_pos rfl,hA];grind
 ·unfold pU
  rw[hm,hn]
  constructor
  ·intro h i hi
   rw[←h i hi]
   exact eK fun j _=>by rw[hA]
  ·intro h i hi
   rw[←h i hi]
   exact eK fun j _=>by rw[hA]
theorem Rows.pivot(h:Rows A m w T){r s:Nat}(hr:r<m)(hp:T.A r s≠0):Rows A m w (T.pivot r s):=by
 obtain⟨R,hR⟩:=h.mul
 refine⟨h.m,h.n,⟨fun i k=>if i=r then R r k/T.A r s else R i k-T.A i s*(R r k/T.A r s),fun i hi j hj=> ?_⟩,fun x=> ?_⟩
 ·have e1:bo m (fun k=>R r k/T.A r s*A k j)=T.A r j/T.A r s:=by
   rw[hR r hr j hj,Rat.div_def,←vd]
   exact eK fun k _=>by grind
  by_cases e:i=r
  ·simp only[aq.pivot,if_pos e]
   exact e1.symm
  ·simp only[aq.pivot,if_neg e]
   rw[←e1,hR i hi j hj,←wT,←Gr]
   exact eK fun k _=>by grind
 ·rw[PI (by rw[h.m];exact hr) hp,h.nR]
theorem Rows.off(h:Rows A m w T)(c0 f:Nat→Rat){c:Nat→Rat}(hc:∀j,j≤w→c j=c0 j-bo m (fun i=>f i*T.A i j)):dB.tG A m w c0 c:=by
 obtain⟨R,hR⟩:=h.mul
 refine⟨fun k=>bo m (fun i=>f i*R i k),fun j hj=> ?_⟩
 rw[hc j hj]
 congr 1
 rw[eK (g:=fun i=>bo m (fun k=>f i*R i k*A k j)) (fun i hi=>by rw[hR i hi j hj,←wT];exact eK fun k _=>by grind),Lb]
 exact eK fun k _=>vd _ _ _
theorem Rows.PW(h:Rows A m w T){c0:Nat→Rat}(ho:dB.tG A m w c0 T.c){r s:Nat}(hr:r<m):dB.tG A m w c0 (T.pivot r s).c:=by
 obtain⟨R,hR⟩:=h.mul
 obtain⟨l,hl⟩:=ho
 refine⟨fun k=>l k+T.c s*(R r k/T.A r s),fun j hj=> ?_⟩
 show T.c j-T.c s*(T.A r j/T.A r s)=_
 have e1:bo m (fun k=>R r k/T.A r s*A k j)=T.A r j/T.A r s:=by
  rw[hR r hr j hj,Rat.div_def,←vd]
  exact eK fun k _=>by grind
 have e2:bo m (fun k=>(l k+T.c s*(R r k/T.A r s))*A k j)=bo m (fun k=>l k*A k j)+T.c s*bo m (fun k=>R r k/T.A r s*A k j):=by
  rw[←wT,←PG]
  exact eK fun k _=>by grind
 rw[e2,e1,hl j hj]
 grind
theorem Rows.cost(h:Rows A m w T){c0:Nat→Rat}(ho:dB.tG A m w c0 T.c){x:Nat→Rat}(hx:T.pU x):T.cost x=bo (w+1) (fun j=>c0 j*x j):=by
 obtain⟨l,hl⟩:=ho
 unfold aq.cost
 rw[h.n]
 have e1:bo (w+1) (fun j=>bo m (fun k=>l k*A k j)*x j)=0:=by
  rw[eK (g:=fun j=>bo m (fun k=>l k*(A k j*x j))) (fun j _=>by rw[←vd];exact eK fun k _=>by grind),Lb]
  refine mG fun k hk=> ?_
  rw[wT,(h.nR x).1 hx k hk];grind
 rw[eK (g:=fun j=>c0 j*x j-bo m (fun k=>l k*A k j)*x j) (fun j hj=>by rw[hl j (by omega)];grind),Gr,e1]
 grind
end
def pt(T:aq)(j:Nat):Rat:=if j=T.n then -1 else bo T.m (fun i=>if T.B i=j then T.A i T.n else 0)
section
variable {T:aq}
theorem WL(h:T.WF)(j:Nat):T.pt j = - T.dir T.n j:=by
 unfold pt dir
 by_cases e:j=T.n
 ·rw[if_pos e,if_pos e,mG]
  ·grind
  ·intro i hi
   have:=h.lt i hi
   rw[if_neg (by omega)]
 ·rw[if_neg e,if_neg e];grind
theorem PX(h:T.WF):T.pU T.pt:=fun i hi=>by
 have:=yW h T.n (Nat.le_refl _) i hi
 rw[eK (g:=fun j=> - (T.A i j*T.dir T.n j)) (fun j _=>by rw[WL h];grind),K9,this];grind
theorem WM(h:T.WF):T.cost T.pt = - T.c T.n:=by
 have:=DL h T.n (Nat.le_refl _)
 unfold cost at this⊢
 rw[eK (g:=fun j=> - (T.c j*T.dir T.n j)) (fun j _=>by rw[WL h];grind),K9,this]
theorem PY(h:T.WF){i:Nat}(hi:i<T.m):T.pt (T.B i)=T.A i T.n:=by
 have:=h.lt i hi
 unfold pt
 rw[if_neg (by omega),rP hi,if_pos rfl]
 intro k hk aZ
 rw[if_neg (fun e=>aZ (h.inj hk hi e))]
theorem WN(hf:T.j0){j:Nat}(hj:j<T.n):0≤T.pt j:=by
 unfold pt
 rw[if_neg (by omega)]
 refine Gs fun i hi=> ?_
 split
 ·exact hf i hi
 ·exact Rat.le_refl
theorem PZ{j:Nat}(hj:j<T.n)(h:∀i,i<T.m→T.B i=j→T.A i T.n=0):T.pt j=0:=by
 unfold pt
 rw[if_neg (by omega)]
 refine mG fun i hi=> ?_
 split
 ·rename_i e;exact h i hi e
 ·rfl
theorem WO{s:Nat}(h:∀i,i<T.m→T.A i s≤0)(j:Nat):0≤T.dir s j:=by
 unfold dir
 have h1:0≤bo T.m (fun i=> - (if T.B i=j then T.A i s else 0)):=Gs fun i hi=>by
  split
  ·have:=h i hi;grind
  ·grind
 rw[K9]at h1
 split <;> grind
theorem aft(h:T.WF){s:Nat}(hs:s<T.n):T.dir s T.n=0:=by
 unfold dir
 rw[if_neg (by omega),mG]
 ·grind
 ·intro i hi
  have:=h.lt i hi
  rw[if_neg (by omega)]
theorem afu{s j:Nat}(hj:j≠s)(h:∀i,i<T.m→T.B i=j→T.A i s=0):T.dir s j=0:=by
 unfold dir
 rw[if_neg hj,mG]
 ·grind
 ·intro i hi
  split
  ·rename_i e;exact h i hi e
  ·rfl
end
def jB(u w j:Nat):Rat:=if u≤j∧j<w then 1 else 0
theorem WQ(u w j:Nat):0≤jB u w j:=by
 unfold jB;split <;> grind
theorem P0{u w j:Nat}(h:j<u):jB u w j=0:=by
 unfold jB;rw[if_neg (by omega)]
theorem WR(u w:Nat):jB u w w=0:=by
 unfold jB;rw[if_neg (by omega)]
section
variable {A:Nat→Nat→Rat} {m w u:Nat} {T:aq}
theorem afv(hW:T.WF)(h:Rows A m w T)(ho:dB.tG A m w (jB u w) T.c){s:Nat}(hs:s<w)(fY:T.c s<0)(hA:∀i,i<T.m→T.A i s≤0):False:=by
 have h1:=DL hW s (by rw[h.n];omega)
 rw[h.cost ho (yW hW s (by rw[h.n];omega))]at h1
 have h2:0≤bo (w+1) (fun j=>jB u w j*T.dir s j):=Gs fun j _=>Rat.mul_nonneg (WQ u w j) (WO hA j)
 grind
theorem afw{n k:Nat}(f:Nat→Rat)(h:∀i,i<n→0≤f i)(hk:k<n):f k≤bo n f:=by
 induction n with
 | zero=>omega
 | succ n ih=>
  rw[fW]
  have h0:=h n (by omega)
  by_cases e:k=n
  ·subst e
   have:0≤bo k f:=Gs fun i hi=>h i (by omega)
   grind
  ·have:=ih (fun i hi=>h i (by omega)) (by omega)
   grind
theorem WS(hW:T.WF)(hF:T.j0)(h:Rows A m w T)(ho:dB.tG A m w (jB u w) T.c)(hv:0≤T.c w):T.c w=0∧∀i,i<T.m→u≤T.B i→T.A i T.n=0:=by
 have h1:=WM hW
 rw[h.cost ho (PX hW),h.n]at h1
 have h0:∀j,j<w+1→0≤jB u w j*T.pt j:=fun j hj=>by
  by_cases e:j=w
  ·subst e;rw[WR];grind
  ·exact Rat.mul_nonneg (WQ u w j) (WN hF (by rw[h.n];omega))
 have h2:=Gs h0
 refine⟨by grind,fun i hi hu=> ?_⟩
 have bI:=hW.lt i hi
 have h3:=afw _ h0 (k:=T.B i) (by rw[h.n]at bI;omega)
 have WT:=bI
 rw[h.n]at WT
 rw[PY hW hi]at h3
 have e:jB u w (T.B i)=1:=by unfold jB;rw[if_pos ⟨hu,WT⟩]
 rw[e]at h3
 have:=hF i hi
 grind
end
structure Clean(u k:Nat)(T:aq):Prop where
 zero:∀i,i<T.m→u≤T.B i→T.A i T.n=0
 row:∀i,i<k→i<T.m→u≤T.B i→∀j,j<u→T.A i j=0
section
variable {u k:Nat} {T:aq}
theorem Clean.start(h:∀i,i<T.m→u≤T.B i→T.A i T.n=0):Clean u 0 T:=⟨h,fun i hi=>by omega⟩
theorem Clean.skip(h:Clean u k T)(hk:T.B k<u∨∀j,j<u→T.A k j=0):Clean u (k+1) T:=by
 refine⟨h.zero,fun i hi hm hu=> ?_⟩
 by_cases e:i=k
 ·subst e
  rcases hk with hk | hk
  ·omega
  ·exact hk
 ·exact h.row i (by omega) hm hu
theorem Clean.afx(h:Clean u k T)(hk:k<T.m)(hu:u≤T.B k){s:Nat}(hs:s<u):Clean u (k+1) (T.pivot k s):=by
 have hz:=h.zero k hk hu
 refine⟨fun i hi hb=> ?_,fun i hi hm hb j hj=> ?_⟩
 ·have fX:i<T.m:=hi
  simp only[aq.pivot]at hb⊢
  by_cases e:i=k
  ·rw[if_pos e]at hb;omega
  ·rw[if_neg e]at hb⊢
   rw[h.zero i fX hb,hz,Rat.div_def];grind
 ·have bH:i<T.m:=hm
  simp only[aq.pivot]at hb⊢
  by_cases e:i=k
  ·rw[if_pos e]at hb;omega
  ·rw[if_neg e]at hb⊢
   rw[h.row i (by omega) bH hb j hj,h.row i (by omega) bH hb s hs];grind
theorem Clean.cZ(h:Clean u k T)(hF:T.j0)(hk:k<T.m)(hu:u≤T.B k)(s:Nat):(T.pivot k s).j0:=fun i hi=>by
 have fX:i<T.m:=hi
 have hz:=h.zero k hk hu
 have h1:=hF i fX
 show 0≤(if i=k then T.A k T.n/T.A k s else T.A i T.n-T.A i s*(T.A k T.n/T.A k s))
 rw[hz]
 split
 ·rw[Rat.div_def];grind
 ·rw[Rat.div_def];grind
theorem Clean.Gw(h:Clean u T.m T){r s:Nat}(hb:T.o0 u r s):Clean u (T.pivot r s).m (T.pivot r s):=by
 have hr:T.B r<u:=by
  false_or_by_contra
  have:=h.row r hb.rm hb.rm (by omega) s hb.su
  have:=hb.pos
  grind
 have hs:=hb.su
 refine⟨fun i hi hu=> ?_,fun i _ hi hu j hj=> ?_⟩
 ·have fX:i<T.m:=hi
  simp only[aq.pivot]at hu⊢
  by_cases e:i=r
  ·rw[if_pos e]at hu;omega
  ·rw[if_neg e]at hu⊢
   rw[h.zero i fX hu,h.row i fX fX hu s hs];grind
 ·have fX:i<T.m:=hi
  simp only[aq.pivot]at hu⊢
  by_cases e:i=r
  ·rw[if_pos e]at hu;omega
  ·rw[if_neg e]at hu⊢
   rw[h.row i fX fX hu j hj,h.row i fX fX hu s hs];grind
end
structure Gx(p:LP)(w:Nat)(plus:Nat→Nat)(minus slack:Nat→Option Nat)(c c0:Nat→Rat):Prop where
 pl:∀j,j<p.n→c0 (plus j)=c j
 mi:∀j,j<p.n→∀k,minus j=some k→c0 k = - c j
 sl:∀i,i<p.m→∀k,slack i=some k→c0 k=0
 last:c0 w=0
section
variable {p:LP} {A:Nat→Nat→Rat} {w u:Nat} {plus:Nat→Nat} {minus slack:Nat→Option Nat} {unit:Nat→Nat} {sg c c0:Nat→Rat} {T:aq}
theorem WU(L:dB p A w u plus minus slack unit sg)(hc:Gx p w plus minus slack c c0){z:Nat→Rat}(ha:∀j,u≤j→j<w→z j=0):
  bo (w+1) (fun j=>c0 j*z j)=bK p.n c (dB.vec plus minus z):=by
 rw[fW,hc.last,dB.WJ L.uw _ (fun j h1 h2=>by rw[ha j h1 h2];grind),L.sum]
 have h1:bo p.m (fun i=>ia (fun j=>c0 j*z j) (slack i))=0:=mG fun i hi=>by
  cases hs:slack i with
  | none=>rfl
  | some k=>simp only[ia];rw[hc.sl i hi k hs];grind
 rw[h1]
 unfold bK dB.vec
 have h2:bo p.n (fun j=>c0 (plus j)*z (plus j)+ia (fun j=>c0 j*z j) (minus j))=bo p.n (fun j=>c j*(z (plus j)-ia z (minus j))):=eK fun j hj=>by
  rw[hc.pl j hj]
  cases hm:minus j with
  | none=>simp only[ia];grind
  | some k=>simp only[ia];rw[hc.mi j hj k hm];grind
 rw[h2];grind
theorem WV(hC:Clean u T.m T){j:Nat}(h1:u≤j)(h2:j<T.n):T.pt j=0:=PZ h2 fun i hi e=>hC.zero i hi (by omega)
theorem WW(L:dB p A w u plus minus slack unit sg)(hW:T.WF)(hF:T.j0)(h:Rows A p.m w T)(hC:Clean u T.m T):p.dH 1 (dB.vec plus minus T.pt):=by
 have hu:=L.uw
 refine L.meets ((h.nR _).1 (PX hW)) ?_ (fun j hj=>WN hF (by rw[h.n];omega)) (fun j h1 h2=>WV hC h1 (by rw[h.n];omega))
 unfold pt
 rw[if_pos h.n.symm]
theorem WX(L:dB p A w u plus minus slack unit sg)(hW:T.WF)(h:Rows A p.m w T)(hC:Clean u T.m T)(hc:Gx p w plus minus slack c c0)(ho:dB.tG A p.m w c0 T.c):
  bK p.n c (dB.vec plus minus T.pt) = - T.c w:=by
 rw[←WU L hc (fun j h1 h2=>WV hC h1 (by rw[h.n];omega)),←h.cost ho (PX hW),WM hW,h.n]
theorem afy(L:dB p A w u plus minus slack unit sg)(hW:T.WF)(hF:T.j0)(h:Rows A p.m w T)(hC:Clean u T.m T)(hc:Gx p w plus minus slack c c0)(ho:dB.tG A p.m w c0 T.c)(hn:∀j,j<u→0≤T.c j):
  p.yZ c (dB.vec plus minus T.pt) (fun i=>sg i*(c0 (unit i)-T.c (unit i))):=by
 have hd:=dB.PV L ho
 refine⟨WW L hW hF h hC,dB.WK L ho (fun i hi k hk=>hc.sl i hi k hk) hn,fun j hj=>⟨?_,fun hf=> ?_⟩,?_⟩
 ·have h1:=L.pl j hj
  rw[(hd.1 j hj).1,hc.pl j hj]
  have:=hn _ h1.1
  grind
 ·obtain⟨k,hk⟩:=L.PU j hj hf
  have h1:=(L.mi j hj).2 k hk
  rw[(hd.1 j hj).2 k hk,hc.mi j hj k hk]
  have:=hn _ h1.1
  grind
 ·rw[hd.2.1,hc.last,WX L hW h hC hc ho];grind
theorem afz(L:dB p A w u plus minus slack unit sg)(hW:T.WF)(hF:T.j0)(h:Rows A p.m w T)(hC:Clean u T.m T)(hc:Gx p w plus minus slack c c0)(ho:dB.tG A p.m w c0 T.c){s:Nat}(hs:s<u)(fY:T.c s<0)
  (hA:∀i,i<T.m→T.A i s≤0):p.y6 c (dB.vec plus minus T.pt) (dB.vec plus minus (T.dir s)):=by
 have hu:=L.uw
 have mH:s<T.n:=by rw[h.n];omega
 have ha:∀j,u≤j→j<w→T.dir s j=0:=fun j h1 h2=>afu (by omega) fun i hi e=>hC.row i hi hi (by omega) s hs
 refine⟨WW L hW hF h hC,L.meets ((h.nR _).1 (yW hW s (by omega))) ?_ (fun j _=>WO hA j) ha,?_⟩
 ·have:=aft hW mH
  rw[h.n]at this
  rw[this];grind
 ·rw[←WU L hc ha,←h.cost ho (yW hW s (by omega)),DL hW s (by omega)]
  exact fY
end
end aq
end Lp
namespace Lp
structure Prg where
 free:List Bool
 rows:List (List Rat×Int×Rat)
def fn(l:List Rat)(j:Nat):Rat:=l.getD j 0
theorem kT{l:List Rat}{j:Nat}{q:Rat}(h:l[j]? = some q):fn l j=q:=by simp[fn,List.getD,h]
theorem afA{l:List Rat}{j:Nat}(h:l.length≤j):fn l j=0:=by simp[fn,List.getD,List.getElem?_eq_none h]
def Prg.row(p:Prg)(i:Nat):List Rat×Int×Rat:=p.rows.getD i ([],0,0)
theorem Prg.ly{p:Prg}{i:Nat}{r:List Rat×Int×Rat}(h:p.rows[i]? = some r):p.row i=r:=by simp[Prg.row,List.getD,h]
def Prg.lp(p:Prg):LP:=⟨p.free.length,p.rows.length,fun j=>p.free.getD j false,fun i j=>fn (p.row i).1 j,fun i=>(p.row i).2.1,fun i=>(p.row i).2.2⟩
theorem Prg.Bk{p:Prg}{j:Nat}{b:Bool}(h:p.free[j]? = some b):p.lp.free j=b:=by simp[Prg.lp,List.getD,h]
def P3(n:Nat)(r:List Rat×Int×Rat):Prop:=r.1.length=n∧(r.2.1=1∨r.2.1=2∨r.2.1=3)
structure Prg.Ok(p:Prg):Prop where
 iu:p.free.length≤400
 rows:p.rows.length≤800
 row:∀(i:Nat)(r:List Rat×Int×Rat),p.rows[i]? = some r→P3 p.free.length r
theorem Prg.Ok.valid{p:Prg}(h:p.Ok):p.lp.Valid:=fun i hi=>by
 have fX:i<p.rows.length:=hi
 have:=(h.row i _ (List.getElem?_eq_getElem fX)).2
 show (p.row i).2.1=1∨(p.row i).2.1=2∨(p.row i).2.1=3
 rwa [Prg.ly (List.getElem?_eq_getElem fX)]
structure Gy(p:Prg)(x:List Rat):Prop where
 ok:p.Ok
 len:x.length=p.free.length
 meets:p.lp.dH 1 (fn x)
structure DO(p:Prg)(c x y:List Rat):Prop where
 cZ:Gy p x
 Lg:c.length=p.free.length
 Lh:y.length=p.rows.length
 cert:p.lp.yZ (fn c) (fn x) (fn y)
structure Li(p:Prg)(y:List Rat):Prop where
 ok:p.Ok
 Lh:y.length=p.rows.length
 cert:p.lp.y5 (fn y)
structure Lj(p:Prg)(c x r:List Rat):Prop where
 cZ:Gy p x
 Lg:c.length=p.free.length
 iv:r.length=p.free.length
 cert:p.lp.y6 (fn c) (fn x) (fn r)
structure qE where
 status:Int
 value:Rat
 x:List Rat
 jg:List Rat
 ray:List Rat
def rR(p:Prg)(c:List Rat)(s:qE):Prop:=
 (s.status=1∧s.ray = []∧DO p c s.x s.jg∧s.value=bK p.free.length (fn c) (fn s.x))∨
 (s.status=2∧s.value=0∧s.x = []∧s.ray = []∧c.length=p.free.length∧Li p s.jg)∨
 (s.status=3∧s.value=0∧s.jg = []∧Lj p c s.x s.ray)
theorem rR.Lk{p:Prg}{c:List Rat}{s:qE}(h:rR p c s):(s.status=1∧p.lp.vi (fn c) s.value)∨(s.status=2∧p.lp.rQ∧s.value=0)∨(s.status=3∧p.lp.wW (fn c)∧s.value=0):=by
 rcases h with ⟨h1,_,h2,h3⟩ | ⟨h1,h2,_,_,_,h3⟩ | ⟨h1,h2,_,h3⟩
 ·exact .inl ⟨h1,by rw[h3];exact h2.cert.Lf h2.cZ.ok.valid⟩
 ·exact .inr (.inl ⟨h1,h3.cert.isInf h3.ok.valid,h2⟩)
 ·exact .inr (.inr ⟨h1,h3.cert.PT,h2⟩)
theorem rR.Ll{p:Prg}{c:List Rat}{S:qE}(h:rR p c S)(e:S.status=1):S.ray = []∧DO p c S.x S.jg∧S.value=bK p.free.length (fn c) (fn S.x):=by
 rcases h with ⟨_,h⟩ | ⟨h1,_⟩ | ⟨h1,_⟩
 ·exact h
 ·omega
 ·omega
theorem rR.WY{p:Prg}{c:List Rat}{S:qE}(h:rR p c S)(e:S.status=2):S.value=0∧S.x = []∧S.ray = []∧c.length=p.free.length∧Li p S.jg:=by
 rcases h with ⟨h1,_⟩ | ⟨_,h⟩ | ⟨h1,_⟩
 ·omega
 ·exact h
 ·omega
theorem rR.at3{p:Prg}{c:List Rat}{S:qE}(h:rR p c S)(e:S.status=3):S.value=0∧S.jg = []∧Lj p c S.x S.ray:=by
 rcases h with ⟨h1,_⟩ | ⟨h1,_⟩ | ⟨_,h⟩
 ·omega
 ·omega
 ·exact h
end Lp
namespace Go.au
open Go.Proofs Num
theorem afB(p q:Rat):((p.num*(q.den:Int)+q.num*(p.den:Int):Int):Rat)/(((p.den:Int)*(q.den:Int):Int):Rat)=p+q:=by
 have h1:=tx p
 have h2:=tx q
 have h3:=DI p
 have h4:=DI q
 rw[Rat.intCast_add,Rat.intCast_mul,Rat.intCast_mul,Rat.intCast_mul]
 grind
theorem afC(p q:Rat):((p.num*q.num:Int):Rat)/(((p.den:Int)*(q.den:Int):Int):Rat)=p*q:=by
 have h1:=tx p
 have h2:=tx q
 have h3:=DI p
 have h4:=DI q
 rw[Rat.intCast_mul,Rat.intCast_mul]
 grind
theorem afD{q:Rat}(h:q≠0):((q.num:Int):Rat)≠0:=fun e=>h (by
 have:q.num=0:=by exact_mod_cast e
 exact Rat.num_eq_zero.1 this)
theorem WZ(p:Rat){q:Rat}(h:q≠0):((p.num*(q.den:Int):Int):Rat)/(((p.den:Int)*q.num:Int):Rat)=p/q:=by
 have h1:=tx p
 have h2:=tx q
 have h3:=DI p
 have h4:=DI q
 have h5:=afD h
 rw[Rat.intCast_mul,Rat.intCast_mul]
 grind
theorem afE(p:Rat){q:Rat}(h:q≠0):((-p.num*(q.den:Int):Int):Rat)/((-(p.den:Int)*q.num:Int):Rat)=p/q:=by
 rw[←WZ p h,Int.neg_mul,Int.neg_mul,Rat.intCast_neg,Rat.intCast_neg]
 grind
theorem afF{H:Heap}{us vs:List Value}{p q:Rat}{N:Nat}(hu:bR H us p)(hv:bR H vs q)(h1:aO p≤N)(h2:aO q≤N)(hN:(N:Int)≤1099511627776):
 Fn Tryz.prog 183 #[.agg us.toArray,.agg vs.toArray] H (tu H (p+q)):=by
 obtain⟨n1,d1,b1,rfl,fE⟩:=id hu
 obtain⟨n2,d2,b2,rfl,cD⟩:=id hv;refine a7 (args:=[_,_]) Tryz.func183 rfl rfl Tryz.ntmps183 rfl rfl fun w0=> ?_;refine aj [0,1] rfl ?_;refine ag (bX rfl rfl (bX rfl rfl (bt fg rfl (ae [2,3,4] ?_))));refine ao ?_
 cases nx:wS n1 d1 b1
 ·
  skip
  refine ag (ab 1 rfl (aE rfl rfl (oZ) ?_));rintro v1 H1 ⟨e1,rfl⟩;rw[e1,nx];refine ab 4 rfl (ae [2,3,4,10] ?_);refine dU rfl (aA (aj [2,3,4] rfl ?_));refine bO .bL [0,2,1,3,4,5,6] follows (by kernel_rfl) ?_;refine ab 2 rfl (bm rfl rfl (rO hu) (fun _ _ h=>by first | exact h.le | exact h.1) ?_);rintro w1 G1 ⟨fq,cB⟩;obtain⟨u1,x1,rfl,eO,eV⟩:=id cB;obtain⟨mA,mB,rfl,mC,mD⟩:=id eO;obtain⟨tz,tA,rfl,tB,tC⟩:=id eV;refine bm rfl rfl (rO (hv.le fq)) (fun _ _ h=>by first | exact h.le | exact h.1) ?_;rintro w2 G2 ⟨dP,bU⟩;obtain⟨u2,x2,rfl,fQ,eP⟩:=id bU;obtain⟨oR,oS,rfl,oT,oU⟩:=id fQ;obtain⟨oV,oW,rfl,oX,oY⟩:=id eP;refine bm rfl rfl (Wl (N:=N) ((cB.le dP).raw.mono h1) (bU.raw.mono h2) hN) (fun _ _ h=>by first | exact h.le | exact h.1) ?_;rintro w3 G3 ⟨qF,jC⟩;obtain⟨u3,x3,rfl,o6,gA⟩:=id jC;obtain⟨Bl,Bm,rfl,Bn,Bp⟩:=id o6;obtain⟨Bq,Br,rfl,Bs,Bt⟩:=id gA;refine bm rfl rfl (yV jC) (fun _ _ h=>by first | exact h.le | exact h.1) ?_;rintro w4 G4 ⟨kS,Gz,rfl,cJ⟩;obtain⟨n4,d4,b4,rfl,_⟩:=id cJ;obtain⟨ti,ak,al⟩:=cI;refine aH (.inl ⟨rfl,rfl⟩) rfl rfl rfl ak al rfl rfl rfl (ae [4] ?_);obtain⟨bQ,aM,aN⟩:=cI;refine aD ⟨.inr rfl,_,.agg rfl Tryz.underlying90 aM aN (.nil),?_⟩
  exact⟨((fq.trans dP).trans qF).trans kS,_,rfl,cJ⟩
 ·
  skip
  cases pW:wS n2 d2 b2
  ·
   skip
   refine ag (ab 1 rfl (aE rfl rfl (oZ) ?_));rintro v1 H1 ⟨e1,rfl⟩;rw[e1,nx];refine ab 2 rfl (aE rfl rfl (oZ) ?_);rintro v1 H1 ⟨e1,rfl⟩;rw[e1,pW];refine ab 1 rfl (ae [2,3,4,10] ?_);refine dU rfl (aA (aj [2,3,4] rfl ?_));refine bO .bL [0,2,1,3,4,5,6] follows (by kernel_rfl) ?_;refine ab 2 rfl (bm rfl rfl (rO hu) (fun _ _ h=>by first | exact h.le | exact h.1) ?_);rintro w1 G1 ⟨fq,cB⟩;obtain⟨u1,x1,rfl,eO,eV⟩:=id cB;obtain⟨mA,mB,rfl,mC,mD⟩:=id eO;obtain⟨tz,tA,rfl,tB,tC⟩:=id eV;refine bm rfl rfl (rO (hv.le fq)) (fun _ _ h=>by first | exact h.le | exact h.1) ?_;rintro w2 G2 ⟨dP,bU⟩;obtain⟨u2,x2,rfl,fQ,eP⟩:=id bU;obtain⟨oR,oS,rfl,oT,oU⟩:=id fQ;obtain⟨oV,oW,rfl,oX,oY⟩:=id eP;refine bm rfl rfl (Wl (N:=N) ((cB.le dP).raw.mono h1) (bU.raw.mono h2) hN) (fun _ _ h=>by first | exact h.le | exact h.1) ?_;rintro w3 G3 ⟨qF,jC⟩;obtain⟨u3,x3,rfl,o6,gA⟩:=id jC;obtain⟨Bl,Bm,rfl,Bn,Bp⟩:=id o6;obtain⟨Bq,Br,rfl,Bs,Bt⟩:=id gA;refine bm rfl rfl (yV jC) (fun _ _ h=>by first | exact h.le | exact h.1) ?_;rintro w4 G4 ⟨kS,Gz,rfl,cJ⟩;obtain⟨n4,d4,b4,rfl,_⟩:=id cJ;obtain⟨ti,ak,al⟩:=cI;refine aH (.inl ⟨rfl,rfl⟩) rfl rfl rfl ak al rfl rfl rfl ?_
   refine ae [4] ?_;obtain⟨bQ,aM,aN⟩:=cI;refine aD ⟨.inr rfl,_,.agg rfl Tryz.underlying90 aM aN (.nil),?_⟩;exact⟨((fq.trans dP).trans qF).trans kS,_,rfl,cJ⟩
  obtain⟨rfl,k1,k2,k3⟩:=Be.1 nx;obtain⟨rfl,k4,k5,k6⟩:=Be.1 pW;obtain⟨-,rfl,rfl,-⟩:=fE.resolve_right (by rintro⟨ad,f,u,w,h,_⟩;cases h);obtain⟨-,rfl,rfl,-⟩:=cD.resolve_right (by rintro⟨ad,f,u,w,h,_⟩;cases h);have fF:=den_pos p;have dX:=den_pos q;have m1:=Bb (a:=p.num) (b:=q.den) k1 k2 (by omega) k6;have m2:=Bb (a:=q.num) (b:=p.den) k4 k5 (by omega) k3;have m3:=Bb (a:=p.den) (b:=q.den) (by omega) k3 (by omega) k6;have m4:0<(p.den:Int)*(q.den:Int):=Int.mul_pos (by omega) (by omega);refine ag (ab 1 rfl (aE rfl rfl (oZ) ?_));rintro v1 H1 ⟨e1,rfl⟩;rw[e1,nx];refine ab 2 rfl (aE rfl rfl (oZ) ?_);rintro v1 H1 ⟨e1,rfl⟩;rw[e1,pW];refine ab 1 rfl (ae [2,3,4,10] ?_);refine dN rfl (ag (ab 4 rfl (gM rfl rfl ⟨by omega,by omega⟩ (ab 4 rfl (gM rfl rfl ⟨by omega,by omega⟩ (aG rfl rfl ⟨by omega,by omega⟩ (ab 4 rfl (gM rfl rfl ⟨by omega,by omega⟩ (aE rfl rfl (K8 (by omega) (by omega) m4 (by omega)) ?_)))))))));rintro w1 G1 ⟨fq,Lm,rfl,cB⟩;rw[afB]at cB;obtain⟨n1,d1,b1,rfl,_⟩:=id cB;obtain⟨ti,ak,al⟩:=cI;refine aH (.inl ⟨rfl,rfl⟩) rfl rfl rfl ak al rfl rfl rfl (ae [4] ?_)
  obtain⟨bQ,aM,aN⟩:=cI;refine aD ⟨.inr rfl,_,.agg rfl Tryz.underlying90 aM aN (.nil),?_⟩;exact⟨fq,_,rfl,cB⟩
theorem GA{H:Heap}{us vs:List Value}{p q:Rat}{N:Nat}(hu:bR H us p)(hv:bR H vs q)(h1:aO p≤N)(h2:aO q≤N)(hN:(N:Int)≤1099511627776):
 Fn Tryz.prog 128 #[.agg us.toArray,.agg vs.toArray] H (tu H (p*q)):=by
 obtain⟨n1,d1,b1,rfl,fE⟩:=id hu
 obtain⟨n2,d2,b2,rfl,cD⟩:=id hv;refine a7 (args:=[_,_]) Tryz.func128 rfl rfl Tryz.ntmps128 rfl rfl fun w0=> ?_;refine aj [0,1] rfl ?_;refine ag (bX rfl rfl (bX rfl rfl (bt fg rfl (ae [2,3,4] ?_))));refine ao ?_
 cases nx:wS n1 d1 b1
 ·
  skip
  refine ag (ab 1 rfl (aE rfl rfl (oZ) ?_));rintro v1 H1 ⟨e1,rfl⟩;rw[e1,nx];refine ab 4 rfl (ae [2,3,4,10] ?_);refine dU rfl (aA (aj [2,3,4] rfl ?_));refine bO .bL [0,2,1,3,4,5,6] follows (by kernel_rfl) ?_;refine ab 2 rfl (bm rfl rfl (rO hu) (fun _ _ h=>by first | exact h.le | exact h.1) ?_);rintro w1 G1 ⟨fq,cB⟩;obtain⟨u1,x1,rfl,eO,eV⟩:=id cB;obtain⟨mA,mB,rfl,mC,mD⟩:=id eO;obtain⟨tz,tA,rfl,tB,tC⟩:=id eV;refine bm rfl rfl (rO (hv.le fq)) (fun _ _ h=>by first | exact h.le | exact h.1) ?_;rintro w2 G2 ⟨dP,bU⟩;obtain⟨u2,x2,rfl,fQ,eP⟩:=id bU;obtain⟨oR,oS,rfl,oT,oU⟩:=id fQ;obtain⟨oV,oW,rfl,oX,oY⟩:=id eP;refine bm rfl rfl (Pz (N:=N) ((cB.le dP).raw.mono h1) (bU.raw.mono h2) hN) (fun _ _ h=>by first | exact h.le | exact h.1) ?_;rintro w3 G3 ⟨qF,jC⟩;obtain⟨u3,x3,rfl,o6,gA⟩:=id jC;obtain⟨Bl,Bm,rfl,Bn,Bp⟩:=id o6;obtain⟨Bq,Br,rfl,Bs,Bt⟩:=id gA;refine bm rfl rfl (yV jC) (fun _ _ h=>by first | exact h.le | exact h.1) ?_;rintro w4 G4 ⟨kS,Gz,rfl,cJ⟩;obtain⟨n4,d4,b4,rfl,_⟩:=id cJ;obtain⟨ti,ak,al⟩:=cI;refine aH (.inl ⟨rfl,rfl⟩) rfl rfl rfl ak al rfl rfl rfl (ae [4] ?_);obtain⟨bQ,aM,aN⟩:=cI;refine aD ⟨.inr rfl,_,.agg rfl Tryz.underlying90 aM aN (.nil),?_⟩
  exact⟨((fq.trans dP).trans qF).trans kS,_,rfl,cJ⟩
 ·
  skip
  cases pW:wS n2 d2 b2
  ·
   skip
   refine ag (ab 1 rfl (aE rfl rfl (oZ) ?_));rintro v1 H1 ⟨e1,rfl⟩;rw[e1,nx];refine ab 2 rfl (aE rfl rfl (oZ) ?_);rintro v1 H1 ⟨e1,rfl⟩;rw[e1,pW];refine ab 1 rfl (ae [2,3,4,10] ?_);refine dU rfl (aA (aj [2,3,4] rfl ?_));refine bO .bL [0,2,1,3,4,5,6] follows (by kernel_rfl) ?_;refine ab 2 rfl (bm rfl rfl (rO hu) (fun _ _ h=>by first | exact h.le | exact h.1) ?_);rintro w1 G1 ⟨fq,cB⟩;obtain⟨u1,x1,rfl,eO,eV⟩:=id cB;obtain⟨mA,mB,rfl,mC,mD⟩:=id eO;obtain⟨tz,tA,rfl,tB,tC⟩:=id eV;refine bm rfl rfl (rO (hv.le fq)) (fun _ _ h=>by first | exact h.le | exact h.1) ?_;rintro w2 G2 ⟨dP,bU⟩;obtain⟨u2,x2,rfl,fQ,eP⟩:=id bU;obtain⟨oR,oS,rfl,oT,oU⟩:=id fQ;obtain⟨oV,oW,rfl,oX,oY⟩:=id eP;refine bm rfl rfl (Pz (N:=N) ((cB.le dP).raw.mono h1) (bU.raw.mono h2) hN) (fun _ _ h=>by first | exact h.le | exact h.1) ?_;rintro w3 G3 ⟨qF,jC⟩;obtain⟨u3,x3,rfl,o6,gA⟩:=id jC;obtain⟨Bl,Bm,rfl,Bn,Bp⟩:=id o6;obtain⟨Bq,Br,rfl,Bs,Bt⟩:=id gA;refine bm rfl rfl (yV jC) (fun _ _ h=>by first | exact h.le | exact h.1) ?_;rintro w4 G4 ⟨kS,Gz,rfl,cJ⟩;obtain⟨n4,d4,b4,rfl,_⟩:=id cJ;obtain⟨ti,ak,al⟩:=cI;refine aH (.inl ⟨rfl,rfl⟩) rfl rfl rfl ak al rfl rfl rfl ?_
   refine ae [4] ?_;obtain⟨bQ,aM,aN⟩:=cI;refine aD ⟨.inr rfl,_,.agg rfl Tryz.underlying90 aM aN (.nil),?_⟩;exact⟨((fq.trans dP).trans qF).trans kS,_,rfl,cJ⟩
  obtain⟨rfl,k1,k2,k3⟩:=Be.1 nx;obtain⟨rfl,k4,k5,k6⟩:=Be.1 pW;obtain⟨-,rfl,rfl,-⟩:=fE.resolve_right (by rintro⟨ad,f,u,w,h,_⟩;cases h);obtain⟨-,rfl,rfl,-⟩:=cD.resolve_right (by rintro⟨ad,f,u,w,h,_⟩;cases h);have fF:=den_pos p;have dX:=den_pos q;have m1:=Bb (a:=p.num) (b:=q.num) k1 k2 k4 k5;have m3:=Bb (a:=p.den) (b:=q.den) (by omega) k3 (by omega) k6;have m4:0<(p.den:Int)*(q.den:Int):=Int.mul_pos (by omega) (by omega);refine ag (ab 1 rfl (aE rfl rfl (oZ) ?_));rintro v1 H1 ⟨e1,rfl⟩;rw[e1,nx];refine ab 2 rfl (aE rfl rfl (oZ) ?_);rintro v1 H1 ⟨e1,rfl⟩;rw[e1,pW];refine ab 1 rfl (ae [2,3,4,10] ?_);refine dN rfl (ag (ab 4 rfl (gM rfl rfl ⟨by omega,by omega⟩ (ab 4 rfl (gM rfl rfl ⟨by omega,by omega⟩ (aE rfl rfl (K8 (by omega) (by omega) m4 (by omega)) ?_))))));rintro w1 G1 ⟨fq,Lm,rfl,cB⟩;rw[afC]at cB;obtain⟨n1,d1,b1,rfl,_⟩:=id cB;obtain⟨ti,ak,al⟩:=cI;refine aH (.inl ⟨rfl,rfl⟩) rfl rfl rfl ak al rfl rfl rfl (ae [4] ?_);obtain⟨bQ,aM,aN⟩:=cI;refine aD ⟨.inr rfl,_,.agg rfl Tryz.underlying90 aM aN (.nil),?_⟩;exact⟨fq,_,rfl,cB⟩
theorem DP{H:Heap}{us vs:List Value}{p q:Rat}{N:Nat}(hu:bR H us p)(hv:bR H vs q)(h1:aO p≤N)(h2:aO q≤N)(hN:(N:Int)≤1099511627776):
 Fn Tryz.prog 119 #[.agg us.toArray,.agg vs.toArray] H (tu H (p-q)):=by
 obtain⟨n1,d1,b1,rfl,fE⟩:=id hu
 obtain⟨n2,d2,b2,rfl,cD⟩:=id hv
 have mH:=wP q;refine a7 (args:=[_,_]) Tryz.func119 rfl rfl Tryz.ntmps119 rfl rfl fun w0=> ?_;refine aj [0,1] rfl ?_;refine ag (bX rfl rfl (bX rfl rfl (bt fg rfl (ae [2,3,4] ?_))));refine bO .bL [0,1,2,3,4] follows (by kernel_rfl) ?_;refine ab 2 rfl (bm rfl rfl (DJ hv (by omega)) (fun _ _ h=>by first | exact h.le | exact h.1) ?_);rintro w1 G1 ⟨fq,Lm,rfl,cB⟩;obtain⟨n1,d1,b1,rfl,_⟩:=id cB;refine bm rfl rfl (afF (hu.le fq) cB h1 (by omega) hN) (fun _ _ h=>by first | exact h.le | exact h.1) ?_;rintro w2 G2 ⟨dP,PF,rfl,bU⟩;rw[←Rat.sub_eq_add_neg]at bU;obtain⟨n2,d2,b2,rfl,_⟩:=id bU;obtain⟨ti,ak,al⟩:=cI;refine aH (.inl ⟨rfl,rfl⟩) rfl rfl rfl ak al rfl rfl rfl (ae [4] ?_);obtain⟨bQ,aM,aN⟩:=cI;refine aD ⟨.inr rfl,_,.agg rfl Tryz.underlying90 aM aN (.nil),?_⟩;exact⟨fq.trans dP,_,rfl,bU⟩
theorem W0{H:Heap}{us vs:List Value}{p q:Rat}{N:Nat}(hu:bR H us p)(hv:bR H vs q)(h1:aO p≤N)(h2:aO q≤N)(hN:(N:Int)≤1099511627776)(hq:q≠0):
 Fn Tryz.prog 126 #[.agg us.toArray,.agg vs.toArray] H (tu H (p/q)):=by
 obtain⟨n1,d1,b1,rfl,fE⟩:=id hu
 obtain⟨n2,d2,b2,rfl,cD⟩:=id hv;refine a7 (args:=[_,_]) Tryz.func126 rfl rfl Tryz.ntmps126 rfl rfl fun w0=> ?_;refine aj [0,1] rfl ?_;refine ag (bX rfl rfl (bX rfl rfl (bt fg rfl (ae [2,3,4] ?_))));refine ao ?_
 cases nx:wS n1 d1 b1
 ·
  skip
  refine ag (ab 1 rfl (aE rfl rfl (oZ) ?_));rintro v1 H1 ⟨e1,rfl⟩;rw[e1,nx];refine ab 4 rfl (ae [2,3,4,12] ?_);refine dU rfl (aA (aj [2,3,4] rfl ?_));refine bO .bL [0,2,1,3,4,5,6,7,8,9,10] follows (by kernel_rfl) ?_;refine ab 2 rfl (bm rfl rfl (rO hu) (fun _ _ h=>by first | exact h.le | exact h.1) ?_);rintro w1 G1 ⟨fq,cB⟩;obtain⟨u1,x1,rfl,eO,eV⟩:=id cB;obtain⟨mA,mB,rfl,mC,mD⟩:=id eO;obtain⟨tz,tA,rfl,tB,tC⟩:=id eV;refine bm rfl rfl (rO (hv.le fq)) (fun _ _ h=>by first | exact h.le | exact h.1) ?_;rintro w2 G2 ⟨dP,bU⟩;obtain⟨u2,x2,rfl,fQ,eP⟩:=id bU;obtain⟨oR,oS,rfl,oT,oU⟩:=id fQ;obtain⟨oV,oW,rfl,oX,oY⟩:=id eP;refine bm rfl rfl (Wm (N:=N) ((cB.le dP).raw.mono h1) (bU.raw.mono h2) hN) (fun _ _ h=>by first | exact h.le | exact h.1) ?_;rintro w3 G3 ⟨qF,r3,rfl,jC⟩;obtain⟨u3,x3,rfl,o6,gA⟩:=id jC;obtain⟨Bl,Bm,rfl,Bn,Bp⟩:=id o6;obtain⟨Bq,Br,rfl,Bs,Bt⟩:=id gA;refine ab 3 rfl (bt bY rfl ?_);obtain⟨ti,ak,al⟩:=aY;refine aH (.inl ⟨rfl,rfl⟩) rfl rfl rfl ak al rfl rfl rfl (ab 1 rfl (ae [4,5] ?_));refine ag (ab 1 rfl (aE rfl rfl (yV jC) ?_))
  rintro w4 G4 ⟨kS,Gz,rfl,cJ⟩;obtain⟨n4,d4,b4,rfl,_⟩:=id cJ;obtain⟨ti,ak,al⟩:=cI;refine aH (.inl ⟨rfl,rfl⟩) rfl rfl rfl ak al rfl rfl rfl (ae [4] ?_);obtain⟨bQ,aM,aN⟩:=cI;refine aD ⟨.inr rfl,_,.agg rfl Tryz.underlying90 aM aN (.nil),?_⟩;exact⟨((fq.trans dP).trans qF).trans kS,_,rfl,cJ⟩
 ·
  skip
  cases pW:wS n2 d2 b2
  ·
   skip
   refine ag (ab 1 rfl (aE rfl rfl (oZ) ?_));rintro v1 H1 ⟨e1,rfl⟩;rw[e1,nx];refine ab 2 rfl (aE rfl rfl (oZ) ?_);rintro v1 H1 ⟨e1,rfl⟩;rw[e1,pW];refine ab 1 rfl (ae [2,3,4,12] ?_);refine dU rfl (aA (aj [2,3,4] rfl ?_));refine bO .bL [0,2,1,3,4,5,6,7,8,9,10] follows (by kernel_rfl) ?_;refine ab 2 rfl (bm rfl rfl (rO hu) (fun _ _ h=>by first | exact h.le | exact h.1) ?_);rintro w1 G1 ⟨fq,cB⟩;obtain⟨u1,x1,rfl,eO,eV⟩:=id cB;obtain⟨mA,mB,rfl,mC,mD⟩:=id eO;obtain⟨tz,tA,rfl,tB,tC⟩:=id eV;refine bm rfl rfl (rO (hv.le fq)) (fun _ _ h=>by first | exact h.le | exact h.1) ?_;rintro w2 G2 ⟨dP,bU⟩;obtain⟨u2,x2,rfl,fQ,eP⟩:=id bU;obtain⟨oR,oS,rfl,oT,oU⟩:=id fQ;obtain⟨oV,oW,rfl,oX,oY⟩:=id eP;refine bm rfl rfl (Wm (N:=N) ((cB.le dP).raw.mono h1) (bU.raw.mono h2) hN) (fun _ _ h=>by first | exact h.le | exact h.1) ?_;rintro w3 G3 ⟨qF,r3,rfl,jC⟩;obtain⟨u3,x3,rfl,o6,gA⟩:=id jC;obtain⟨Bl,Bm,rfl,Bn,Bp⟩:=id o6;obtain⟨Bq,Br,rfl,Bs,Bt⟩:=id gA;refine ab 3 rfl (bt bY rfl ?_);obtain⟨ti,ak,al⟩:=aY;refine aH (.inl ⟨rfl,rfl⟩) rfl rfl rfl ak al rfl rfl rfl (vr 1 ?_)
   refine ae [4,5] ?_;refine ag (ab 1 rfl (aE rfl rfl (yV jC) ?_));rintro w4 G4 ⟨kS,Gz,rfl,cJ⟩;obtain⟨n4,d4,b4,rfl,_⟩:=id cJ;obtain⟨ti,ak,al⟩:=cI;refine aH (.inl ⟨rfl,rfl⟩) rfl rfl rfl ak al rfl rfl rfl (ae [4] ?_);obtain⟨bQ,aM,aN⟩:=cI;refine aD ⟨.inr rfl,_,.agg rfl Tryz.underlying90 aM aN (.nil),?_⟩;exact⟨((fq.trans dP).trans qF).trans kS,_,rfl,cJ⟩
  obtain⟨rfl,k1,k2,k3⟩:=Be.1 nx;obtain⟨rfl,k4,k5,k6⟩:=Be.1 pW;obtain⟨-,rfl,rfl,-⟩:=fE.resolve_right (by rintro⟨ad,f,u,w,h,_⟩;cases h);obtain⟨-,rfl,rfl,-⟩:=cD.resolve_right (by rintro⟨ad,f,u,w,h,_⟩;cases h);have fF:=den_pos p;have dX:=den_pos q;have hqn:q.num≠0:=fun e=>hq (Rat.num_eq_zero.1 e);have m1:=Bb (a:=p.num) (b:=q.den) k1 k2 (by omega) k6;have m3:=Bb (a:=p.den) (b:=q.num) (by omega) k3 k4 k5;refine ag (ab 1 rfl (aE rfl rfl (oZ) ?_));rintro v1 H1 ⟨e1,rfl⟩;rw[e1,nx];refine ab 2 rfl (aE rfl rfl (oZ) ?_);rintro v1 H1 ⟨e1,rfl⟩;rw[e1,pW];refine ab 1 rfl (ae [2,3,4,12] ?_);refine dN rfl (ao (ag (ab 3 rfl (ae [2,3,4,15] ?_))));refine aC rfl (fun hb=> ?_) (fun hb=> ?_)
  ·
   have hb:q.num<0:=by simpa using hb
   have m4:0 < -(p.den:Int)*q.num:=by rw[Int.neg_mul,←Int.mul_neg];exact Int.mul_pos (by omega) (by omega)
   have e1: -p.num*(q.den:Int) = -(p.num*(q.den:Int)):=Int.neg_mul _ _;have e2: -(p.den:Int)*q.num = -((p.den:Int)*q.num):=Int.neg_mul _ _;refine ag (ab 2 rfl (te rfl ⟨by omega,by omega⟩ (ab 2 rfl (gM rfl rfl ⟨by omega,by omega⟩ (ab 2 rfl (te rfl ⟨by omega,by omega⟩ (ab 2 rfl (gM rfl rfl ⟨by omega,by omega⟩ (aE rfl rfl (K8 (by omega) (by omega) m4 (by omega)) ?_)))))))));rintro w1 G1 ⟨fq,Lm,rfl,cB⟩;rw[afE p hq]at cB;obtain⟨n1,d1,b1,rfl,_⟩:=id cB;obtain⟨ti,ak,al⟩:=cI;refine aH (.inl ⟨rfl,rfl⟩) rfl rfl rfl ak al rfl rfl rfl (ae [4] ?_);obtain⟨bQ,aM,aN⟩:=cI;refine aD ⟨.inr rfl,_,.agg rfl Tryz.underlying90 aM aN (.nil),?_⟩;exact⟨fq,_,rfl,cB⟩
  have hb:0<q.num:=by have:=of_decide_eq_false hb;omega
  have m4:0<(p.den:Int)*q.num:=Int.mul_pos (by omega) hb;refine aA (aj [2,3,4] rfl ?_);refine ag (ab 4 rfl (gM rfl rfl ⟨by omega,by omega⟩ (ab 4 rfl (gM rfl rfl ⟨by omega,by omega⟩ (aE rfl rfl (K8 (by omega) (by omega) m4 (by omega)) ?_)))));rintro w1 G1 ⟨fq,Lm,rfl,cB⟩;rw[WZ p hq]at cB;obtain⟨n1,d1,b1,rfl,_⟩:=id cB;obtain⟨ti,ak,al⟩:=cI;refine aH (.inl ⟨rfl,rfl⟩) rfl rfl rfl ak al rfl rfl rfl (ae [4] ?_);obtain⟨bQ,aM,aN⟩:=cI;refine aD ⟨.inr rfl,_,.agg rfl Tryz.underlying90 aM aN (.nil),?_⟩;exact⟨fq,_,rfl,cB⟩
end Go.au
