/- Part 4 of the proof: Num1, Lp, Sx, Sy, Prg. -/
import Derived.Test.YtfjncmjbhfdnpaaGreatA03
set_option linter.unusedVariables false
namespace Go.ar
open Go.Proofs Num
theorem p7:Tryz.prog.underlying 88=some (.pointer (Tryz.prog.pointee 88)):=by
 unfold Program.pointee;rw[Tryz.underlying88]
theorem sJ{H:Heap}{g:Nat}{xs:List Value}{e i:Nat}{v:Value}(h:xs[i]? = some v):cell (ins H g (whole xs e)) ((⟨g,0,none⟩:Addr).add i)=some v:=by
 simp[cell,iA,ins,whole,h]
theorem Jk{H:Heap}{g:Nat}{x:Value}{xs:List Value}{e:Nat}:cell (ins H g (whole (x::xs) e)) ⟨g,0,none⟩=some x:=by
 simp[cell,ins,whole]
theorem Jl{H:Heap}{ad:Addr}{a b c:Value}(h0:cell H ad=some a)(h1:cell H (ad.add 1)=some b)(h2:cell H (ad.add 2)=some c):∀(i:Nat)(v:Value),[a,b,c][i]? = some v→cell H (ad.add i)=some v:=by
 intro i v hv
 match i with
 | 0=>simp only[List.getElem?_cons_zero,Option.some.injEq]at hv;subst hv;simpa [Addr.add]using h0
 | 1=>simp only[List.getElem?_cons_succ,List.getElem?_cons_zero,Option.some.injEq]at hv;subst hv;exact h1
 | 2=>simp only[List.getElem?_cons_succ,List.getElem?_cons_zero,Option.some.injEq]at hv;subst hv;exact h2
 | n+3=>simp at hv
theorem zK{a b:Int}(h1: -2147483647≤a)(h2:a≤2147483647)(h3: -2147483647≤b)(h4:b≤2147483647): -4611686014132420609≤a*b∧a*b≤4611686014132420609:=by
 have h5:(a*b).natAbs≤2147483647*2147483647:=by rw[Int.natAbs_mul];exact Nat.mul_le_mul (by omega) (by omega)
 omega
theorem sK(p:Rat):(p.num:Rat)/((p.den:Int):Rat)=p:=by
 have:=Rat.mkRat_self p
 rwa [Rat.mkRat_eq_div]at this
theorem Cu(p:Rat):((p.den:Int):Rat)≠0:=fun e=>p.den_nz (by exact_mod_cast e)
theorem den_pos(p:Rat):0<p.den:=Nat.pos_of_ne_zero p.den_nz
theorem lowest{n d:Int}(hd:0<d):(((n:Rat)/(d:Rat)).num=n.tdiv (Nat.gcd n.natAbs d.natAbs:Nat))∧((n:Rat)/(d:Rat)).den=d.natAbs/Nat.gcd n.natAbs d.natAbs:=by
 have h0:decide (d<0)=false:=decide_eq_false (by omega)
 have mf:0<d.natAbs:=by omega
 have e:=TO n d
 rw[h0]at e
 rw[←e,zF mf,Nf mf]
 refine⟨?_,rfl⟩
 have hg:(Nat.gcd n.natAbs d.natAbs)∣n.natAbs:=Nat.gcd_dvd_left _ _
 by_cases hn:n<0
 ·rw[show (decide (n<0) != false)=true by simp[hn]]
  have e2:n = -(n.natAbs:Int):=by omega
  conv=>rhs;rw[e2,Int.neg_tdiv]
  simp[sg,Int.tdiv_eq_ediv_of_nonneg]
 ·rw[show (decide (n<0) != false)=false by simp[hn]]
  have e2:n=(n.natAbs:Int):=by omega
  conv=>rhs;rw[e2]
  simp[sg,Int.tdiv_eq_ediv_of_nonneg]
theorem ady{n:Int}{g:Nat}(h1: -9223372036854775807≤n)(h2:n≤9223372036854775807): -9223372036854775807≤n.tdiv g∧n.tdiv g≤9223372036854775807:=by
 have:(n.tdiv g).natAbs≤n.natAbs:=by
  rw[Int.natAbs_tdiv];exact Nat.div_le_self _ _
 omega
abbrev N3(n d:Int)(b:Option Addr):Value:= .agg #[.int .i64 n,.int .i64 d,.pointer b]
theorem pd(H:Heap){n:Int}(h1: -9223372036854775807≤n)(h2:n≤9223372036854775807):bE H [.int .i64 n,.int .i64 1,.pointer none] (n:Rat):=
 ⟨_,_,_,rfl,.inl ⟨rfl,by simp,by simp,h1,h2,by decide⟩⟩
theorem pe{H:Heap}{n:Int}:
 Fn Tryz.prog 123 #[.int .i64 n] H (qX H (N3 n 1 none)):=by
 refine aZ (args:=[_]) Tryz.func123 rfl rfl Tryz.ntmps123 rfl rfl fun w0=> ?_;refine ag [0] rfl ?_;refine ab ?_;refine bt dM rfl ?_;refine aa [0,2] ?_;refine ab ?_;refine vr 1 ?_;refine dS ae rfl dM rfl rfl ?_;obtain⟨ti,aj,ak⟩:=bV;refine aJ (.inl ⟨rfl,rfl⟩) rfl rfl rfl aj ak rfl rfl rfl ?_;refine aa [2] ?_;obtain⟨bX,aK,aL⟩:=bV;refine az ⟨.inr rfl,_,.agg rfl Tryz.underlying90 aK aL (.nil),?_⟩;exact⟨rfl,rfl⟩
theorem Uj{H:Heap}{u:Value}{l:List Nat}(hu:jh H u l)(hl:Lt l)(h2:l.length≤2):
 Fn Tryz.prog 188 #[u] H (qX H (.int .i64 (val l:Nat))):=by
 obtain⟨A,c,rfl,hc,hr⟩:=hu;refine aZ (args:=[_]) Tryz.func188 rfl rfl Tryz.ntmps188 rfl rfl fun w0=> ?_;refine ag [0] rfl ?_;refine ab ?_;refine vr 1 ?_;refine aa [0] ?_;refine ab ?_;refine vr 1 ?_;refine aa [0,3] ?_;refine al ?_;refine ab ?_;refine vr 2 ?_;refine cP rfl rfl ⟨by omega,by omega⟩ ?_;refine vr 1 ?_;refine aa [0,3,4] ?_;refine aC ?_;refine fZ (fun(k:Nat)=>k) (fun(k:Nat)=>put (put (put (emp) 0 (.val (.slice A l.length c))) 3 (.val (.int .i64 (val (l.drop k):Nat)))) 4 (.val (.int .i64 ((k:Int)-1)))) (fun(k:Nat) H'=>H'=H∧k≤l.length) l.length (⟨rfl,Nat.le_refl _⟩) (by simp only[List.drop_length];repeat (first | exact iy _ | refine dh rfl ?_ | refine dh (iO (by first | omega | (simp[val];done))) ?_)) ?_;rintro k H1 ⟨rfl,hk⟩;refine al ?_;refine ab ?_;refine vr 2 ?_;refine aa [0,3,4,9] ?_;refine aB rfl (fun hb=> ?_) (fun hb=> ?_)
 ·
  have hb:0<k:=by simp at hb;omega
  obtain⟨x,hx⟩:∃x,l[k-1]? = some x:=⟨_,List.getElem?_eq_getElem (by omega)⟩;have hxB:=hl.get hx
  have kF:val (l.drop (k-1))=x+B*val (l.drop k):=by
   obtain⟨iw,e⟩:=List.getElem?_eq_some_iff.1 hx;rw[List.drop_eq_getElem_cons iw,e,jy,show k-1+1=k by omega]
  have hvb:=tM (hl.drop k);have adz:B^(l.drop k).length≤B^1:=Nat.pow_le_pow_right mr (by rw[List.length_drop];omega)
  have aj9:val (l.drop k)<1000000000:=by
   have:=Nat.lt_of_lt_of_le hvb adz
   rwa [Nat.pow_one,bY]at this
  rw[bY]at hxB kF;refine au ?_;refine ag [0,3,4] rfl ?_;refine al ?_;refine aC ?_;refine av rfl ?_;refine vr 1 ?_;refine gq rfl rfl ⟨by omega,by omega⟩ ?_;refine vr 2 ?_;refine aM ae rfl rfl rfl rfl rfl (hr) (by rw[show ((k:Int)-1).toNat=k-1 by omega];exact dd hx) (by omega) (by omega) fun _=> ?_;refine cW ae rfl rfl rfl ⟨by omega,by omega⟩ ?_;refine aD rfl rfl ⟨by omega,by omega⟩ ?_;refine vr 1 ?_;refine aq ?_;refine ag [0,3,4] rfl ?_;refine av rfl ?_;refine vr 1 ?_;refine cP rfl rfl ⟨by omega,by omega⟩ ?_;refine vr 1 ?_;refine aq ?_;exact⟨k-1,by omega,(by rw[kF];repeat (first | exact iy _ | refine dh rfl ?_ | refine dh (iO (by omega)) ?_)),rfl,by omega⟩
 ·
  have hb:k=0:=by simp at hb;omega
  subst hb;refine aU ?_;refine ag [3] rfl ?_;refine ab ?_;refine vr 2 ?_;refine aa [2] ?_;refine az ⟨.inr rfl,_,.tmp rfl (.nil),?_⟩;exact⟨rfl,rfl⟩
theorem xP{H:Heap}{v:Value}{q:Rat}(hv:bK H v q):
 Fn Tryz.prog 130 #[v] H (qY H q):=by
 obtain⟨u,w,rfl,hu,hw⟩:=id hv
 have mC:=hv
 unfold bK at mC
 obtain⟨f,hf⟩:∃f,f=decide (q.num<0):=⟨_,rfl⟩
 rw[←hf]at hv
 rw[←hf]
 obtain⟨A,c,rfl,hc,hr⟩:=id hu
 obtain⟨A',c',rfl,jd,dt⟩:=id hw;refine aZ (args:=[_]) Tryz.func130 rfl rfl Tryz.ntmps130 rfl rfl fun w0=> ?_;refine ag [0] rfl ?_;refine ab ?_;refine Mx rfl rfl ?_;intro g hg;have hle:=Heap.bI (whole [.bool f,.slice A (ah q.num.natAbs).length c,.slice A' (ah q.den).length c'] 31) hg;refine bt dM rfl ?_;refine aa [1,2] ?_;refine al ?_
 by_cases h2:2<(ah q.num.natAbs).length
 ·
  skip
  refine ab ?_;refine aS ae rfl rfl rfl ?_;refine aN ae rfl rfl rfl (sJ rfl) ?_;refine vr 1 ?_;refine aA true rfl rfl (kS (by omega)) ?_;refine vr 6 ?_;refine aa [1,2,13] ?_;refine cD rfl ?_;refine ab ?_;refine dS ae rfl dM rfl rfl ?_;obtain⟨ti,aj,ak⟩:=bV;refine aJ (.inl ⟨rfl,rfl⟩) rfl rfl rfl aj ak rfl rfl rfl ?_;refine aa [2] ?_;obtain⟨bX,aK,aL⟩:=bV;refine az ⟨.inr rfl,_,.agg rfl Tryz.underlying90 aK aL (.nil),?_⟩;exact⟨hle,_,rfl,0,0,some ⟨g,0,none⟩,rfl,.inr ⟨_,f,_,_,rfl,hv.le hle,Jk,sJ rfl,sJ rfl⟩⟩
 ·
  skip
  by_cases h3:2<(ah q.den).length
  ·
   skip
   refine ab ?_;refine aS ae rfl rfl rfl ?_;refine aN ae rfl rfl rfl (sJ rfl) ?_;refine vr 1 ?_;refine aA false rfl rfl (gA (by omega)) ?_;refine vr 1 ?_;refine aS ae rfl rfl rfl ?_;refine aN ae rfl rfl rfl (sJ rfl) ?_;refine vr 1 ?_;refine aA true rfl rfl (kS (by omega)) ?_;refine vr 1 ?_;refine aa [1,2,13] ?_;refine cD rfl ?_;refine ab ?_;refine dS ae rfl dM rfl rfl ?_;obtain⟨ti,aj,ak⟩:=bV;refine aJ (.inl ⟨rfl,rfl⟩) rfl rfl rfl aj ak rfl rfl rfl ?_;refine aa [2] ?_;obtain⟨bX,aK,aL⟩:=bV;refine az ⟨.inr rfl,_,.agg rfl Tryz.underlying90 aK aL (.nil),?_⟩;exact⟨hle,_,rfl,0,0,some ⟨g,0,none⟩,rfl,.inr ⟨_,f,_,_,rfl,hv.le hle,Jk,sJ rfl,sJ rfl⟩⟩
  ·
   skip
   refine ab ?_;refine aS ae rfl rfl rfl ?_;refine aN ae rfl rfl rfl (sJ rfl) ?_;refine vr 1 ?_;refine aA false rfl rfl (gA (by omega)) ?_;refine vr 1 ?_;refine aS ae rfl rfl rfl ?_;refine aN ae rfl rfl rfl (sJ rfl) ?_;refine vr 1 ?_;refine aA false rfl rfl (gA (by omega)) ?_;refine vr 1 ?_;refine aa [1,2,13] ?_;refine cU rfl ?_;refine au ?_;refine ag [1,2] rfl ?_;have ET:=iQ.1 (show (ah q.num.natAbs).length≤2 by omega);have r8:=iQ.1 (show (ah q.den).length≤2 by omega);rw[bY]at ET r8;refine bJ .bF [0,1,3,4,2,5,6,7,8] follows (by kernel_rfl) ?_;refine aS ae rfl rfl rfl ?_;refine aN ae rfl rfl rfl (sJ rfl) ?_;refine aS ae rfl rfl rfl ?_;refine aN ae rfl rfl rfl (sJ rfl) ?_;refine aO rfl rfl (Uj (hu.le hle) (fC _).lt (by omega)) (fun _ _ h=>h.le) ?_;rintro v1 H1 ⟨e1,rfl⟩;rw[e1,cI];refine aO rfl rfl (Uj (hw.le hle) (fC _).lt (by omega)) (fun _ _ h=>h.le) ?_;rintro v1 H1 ⟨e1,rfl⟩;rw[e1,cI];refine dS ae rfl dM rfl rfl ?_;refine bt dM rfl ?_;obtain⟨ti,aj,ak⟩:=bV;refine aJ (.inl ⟨rfl,rfl⟩) rfl rfl rfl aj ak rfl rfl rfl ?_;refine aa [1,2,3] ?_;refine al ?_;refine ab ?_;refine aS ae rfl rfl rfl ?_
   refine aN ae rfl rfl rfl (Jk) ?_;refine aa [2,3,23] ?_;refine aB rfl (fun hb=> ?_) (fun hb=> ?_)
   ·
    have hq:q.num<0:=by rw[hf]at hb;simpa using hb
    refine av rfl ?_;refine vr 2 ?_;refine sx rfl ⟨by omega,by omega⟩ ?_;refine vr 1 ?_;obtain⟨ti,aj,ak⟩:=nO;refine aJ (.inr rfl) rfl rfl rfl aj ak rfl rfl rfl ?_;refine aq ?_;refine ag [2,3] rfl ?_;refine ab ?_;refine vr 1 ?_;obtain⟨ti,aj,ak⟩:=bV;refine aJ (.inl ⟨rfl,rfl⟩) rfl rfl rfl aj ak rfl rfl rfl ?_;refine aa [2] ?_;obtain⟨bX,aK,aL⟩:=bV;refine az ⟨.inr rfl,_,.agg rfl Tryz.underlying90 aK aL (.nil),?_⟩;refine⟨hle,_,rfl,-(q.num.natAbs:Int),(q.den:Int),none,rfl,.inl ⟨rfl,by omega,rfl,by omega,by omega,by omega⟩⟩
   ·
    have hq:¬q.num<0:=by rw[hf]at hb;simpa using hb
    refine au ?_;refine ag [2,3] rfl ?_;refine ab ?_;refine vr 1 ?_;obtain⟨ti,aj,ak⟩:=bV;refine aJ (.inl ⟨rfl,rfl⟩) rfl rfl rfl aj ak rfl rfl rfl ?_;refine aa [2] ?_;obtain⟨bX,aK,aL⟩:=bV;refine az ⟨.inr rfl,_,.agg rfl Tryz.underlying90 aK aL (.nil),?_⟩;refine⟨hle,_,rfl,(q.num.natAbs:Int),(q.den:Int),none,rfl,.inl ⟨rfl,by omega,rfl,by omega,by omega,by omega⟩⟩
theorem vG{H:Heap}{v:Value}{q:Rat}{N:Nat}(hv:cH H v q N)(hN:(N:Int)≤1099511627776):
 Fn Tryz.prog 121 #[v] H (qY H q):=by
 obtain⟨bf,bu,bw,nX,nY,rfl,_⟩:=id hv;refine aZ (args:=[_]) Tryz.func121 rfl rfl Tryz.ntmps121 rfl rfl fun w0=> ?_;refine ag [0] rfl ?_;refine ab ?_;refine bS rfl rfl ?_;refine bt dM rfl ?_;refine aa [1,2] ?_;refine ab ?_;refine vr 1 ?_;refine aw rfl rfl (T6 hv hN) ?_;rintro w1 G1 ⟨fc,bW⟩;obtain⟨u1,x1,rfl,eu,eD⟩:=id bW;obtain⟨lT,lU,rfl,lV,lW⟩:=id eu;obtain⟨sL,sM,rfl,sN,sO⟩:=id eD;refine aw rfl rfl (xP bW) ?_;rintro w2 G2 ⟨dD,Jm,rfl,bN⟩;obtain⟨n2,d2,b2,rfl,_⟩:=id bN;obtain⟨ti,aj,ak⟩:=bV;refine aJ (.inl ⟨rfl,rfl⟩) rfl rfl rfl aj ak rfl rfl rfl ?_;refine aa [2] ?_;obtain⟨bX,aK,aL⟩:=bV;refine az ⟨.inr rfl,_,.agg rfl Tryz.underlying90 aK aL (.nil),?_⟩;exact⟨fc.trans dD,_,rfl,bN⟩
theorem qZ{H:Heap}{vs:List Value}{q:Rat}(hv:bE H vs q):
 Fn Tryz.prog 187 #[.agg vs.toArray] H (kp H q):=by
 obtain⟨n,d,b,rfl,iv⟩:=id hv
 have cO:=fun ad f u w (h:bK H (.agg #[.bool f,u,w]) q)(_:b=some ad)=>h.raw;refine aZ (args:=[_]) Tryz.func187 rfl rfl Tryz.ntmps187 rfl rfl fun w0=> ?_;refine ag [0] rfl ?_;refine ab ?_;refine bS rfl rfl ?_;refine bt cR rfl ?_;refine aa [1,2] ?_;refine al ?_
 rcases iv with ⟨rfl,hn,hd,h1,h2,h3⟩ | ⟨ad,f,u,w,rfl,pf,mD,iS,lS⟩
 ·
  skip
  refine ab ?_;refine vr 2 ?_;refine wU p7 rfl rfl ?_;refine aa [1,2,5] ?_;refine cU rfl ?_;refine au ?_;refine ag [1,2] rfl ?_;refine ab ?_;refine vr 4 ?_;refine aw rfl rfl (T4 (by omega) (by omega) (by omega) (by omega)) ?_;rintro w1 G1 ⟨fc,bW⟩;obtain⟨u1,x1,rfl,eu,eD⟩:=id bW;obtain⟨lT,lU,rfl,lV,lW⟩:=id eu;obtain⟨sL,sM,rfl,sN,sO⟩:=id eD;rw[hn,hd,sK]at bW;obtain⟨ti,aj,ak⟩:=a8;refine aJ (.inl ⟨rfl,rfl⟩) rfl rfl rfl aj ak rfl rfl rfl ?_;refine aa [2] ?_;obtain⟨bX,aK,aL⟩:=a8;refine az ⟨.inr rfl,_,.agg rfl Tryz.underlying31 aK aL (.nil),?_⟩
  skip
  rw[hn,hd,sK];exact⟨fc,bW⟩
 ·
  obtain⟨u1,w1,zL,eu,fX⟩:=id pf
  obtain⟨rfl,rfl,rfl⟩:f=decide (q.num<0)∧u=u1∧w=w1:=by simpa using zL
  obtain⟨lT,lU,rfl,lV,lW⟩:=id eu;obtain⟨Co,Cp,rfl,Cq,Cr⟩:=id fX;refine ab ?_;refine vr 2 ?_;refine wU p7 rfl rfl ?_;refine aa [1,2,5] ?_;refine cD rfl ?_;refine ab ?_;refine vr 3 ?_;refine wV (vs:=[.bool _,_,_]) ae rfl rfl rfl (Jl mD iS lS) ?_;obtain⟨ti,aj,ak⟩:=a8;refine aJ (.inl ⟨rfl,rfl⟩) rfl rfl rfl aj ak rfl rfl rfl ?_;refine aa [2] ?_;obtain⟨bX,aK,aL⟩:=a8;refine az ⟨.inr rfl,_,.agg rfl Tryz.underlying31 aK aL (.nil),?_⟩;exact⟨.refl _,pf⟩
theorem Uk{H:Heap}{vs:List Value}{q:Rat}(hv:bE H vs q)(hN:(aG q:Int)≤1099511627776):
 Fn Tryz.prog 61 #[.agg vs.toArray] H (kp H q):=by
 obtain⟨n,d,b,rfl,iv⟩:=id hv
 have cO:=fun ad f u w (h:bK H (.agg #[.bool f,u,w]) q)(_:b=some ad)=>h.raw;refine aZ (args:=[_]) Tryz.func61 rfl rfl Tryz.ntmps61 rfl rfl fun w0=> ?_;refine ag [0] rfl ?_;refine ab ?_;refine bS rfl rfl ?_;refine bt cR rfl ?_;refine aa [1,2] ?_;refine al ?_
 rcases iv with ⟨rfl,hn,hd,h1,h2,h3⟩ | ⟨ad,f,u,w,rfl,pf,mD,iS,lS⟩
 ·
  skip
  refine ab ?_;refine vr 2 ?_;refine wU p7 rfl rfl ?_;refine aa [1,2,5] ?_;refine cU rfl ?_;refine au ?_;refine ag [1,2] rfl ?_;refine ab ?_;refine vr 4 ?_;refine aw rfl rfl (T4 (by omega) (by omega) (by omega) (by omega)) ?_;rintro w1 G1 ⟨fc,bW⟩;obtain⟨u1,x1,rfl,eu,eD⟩:=id bW;obtain⟨lT,lU,rfl,lV,lW⟩:=id eu;obtain⟨sL,sM,rfl,sN,sO⟩:=id eD;rw[hn,hd,sK]at bW;obtain⟨ti,aj,ak⟩:=a8;refine aJ (.inl ⟨rfl,rfl⟩) rfl rfl rfl aj ak rfl rfl rfl ?_;refine aa [2] ?_;obtain⟨bX,aK,aL⟩:=a8;refine az ⟨.inr rfl,_,.agg rfl Tryz.underlying31 aK aL (.nil),?_⟩
  skip
  rw[hn,hd,sK];exact⟨fc,bW⟩
 ·
  obtain⟨u1,w1,zL,eu,fX⟩:=id pf
  obtain⟨rfl,rfl,rfl⟩:f=decide (q.num<0)∧u=u1∧w=w1:=by simpa using zL
  obtain⟨lT,lU,rfl,lV,lW⟩:=id eu;obtain⟨Co,Cp,rfl,Cq,Cr⟩:=id fX;refine ab ?_;refine vr 2 ?_;refine wU p7 rfl rfl ?_;refine aa [1,2,5] ?_;refine cD rfl ?_;refine ab ?_;refine vr 3 ?_;refine wV (vs:=[.bool _,_,_]) ae rfl rfl rfl (Jl mD iS lS) ?_;refine aw rfl rfl (T6 pf.raw hN) ?_;rintro w1 G1 ⟨fc,bW⟩;obtain⟨u1,x1,rfl,eu,eD⟩:=id bW;obtain⟨lT,lU,rfl,lV,lW⟩:=id eu;obtain⟨sL,sM,rfl,sN,sO⟩:=id eD;obtain⟨ti,aj,ak⟩:=a8;refine aJ (.inl ⟨rfl,rfl⟩) rfl rfl rfl aj ak rfl rfl rfl ?_;refine aa [2] ?_;obtain⟨bX,aK,aL⟩:=a8;refine az ⟨.inr rfl,_,.agg rfl Tryz.underlying31 aK aL (.nil),?_⟩;exact⟨fc,bW⟩
theorem adA{H:Heap}{n d:Int}{b:Option Addr}:
 Fn Tryz.prog 184 #[N3 n d b] H (fun v H'=>H'=H∧∃t,v = .bool t∧(t=true↔b=none∧-2147483647≤n∧n≤2147483647∧d≤2147483647)):=by
 refine aZ (args:=[_]) Tryz.func184 rfl rfl Tryz.ntmps184 rfl rfl fun w0=> ?_;refine ag [0] rfl ?_;refine ab ?_;refine bS rfl rfl ?_;refine vr 1 ?_;refine aa [1] ?_
 rcases b with _ | ad
 rotate_left
 ·
  skip
  refine ab ?_;refine vr 2 ?_;refine D6 p7 rfl rfl ?_;refine vr 16 ?_;refine aa [2] ?_;refine az ⟨.inr rfl,_,.tmp rfl (.nil),?_⟩;exact⟨rfl,_,rfl,by constructor <;> intro h <;> first | (cases h;done) | exact⟨rfl,h1,h2,h3⟩ | (obtain⟨h4,h5,h6,h7⟩:=h;first | (cases h4;done) | omega) | rfl⟩
 ·
  skip
  by_cases h1: -2147483647≤n
  ·
   skip
   by_cases h2:n≤2147483647
   ·
    skip
    by_cases h3:d≤2147483647
    ·
     skip
     refine ab ?_;refine vr 2 ?_;refine D6 p7 rfl rfl ?_;refine vr 3 ?_;refine aA true rfl rfl (oX h1) ?_;refine vr 4 ?_;refine aA true rfl rfl (oX h2) ?_;refine vr 4 ?_;refine aA true rfl rfl (oX h3) ?_;refine vr 2 ?_;refine aa [2] ?_;refine az ⟨.inr rfl,_,.tmp rfl (.nil),?_⟩;exact⟨rfl,_,rfl,by constructor <;> intro h <;> first | (cases h;done) | exact⟨rfl,h1,h2,h3⟩ | (obtain⟨h4,h5,h6,h7⟩:=h;first | (cases h4;done) | omega) | rfl⟩
    ·
     skip
     refine ab ?_;refine vr 2 ?_;refine D6 p7 rfl rfl ?_;refine vr 3 ?_;refine aA true rfl rfl (oX h1) ?_;refine vr 4 ?_;refine aA true rfl rfl (oX h2) ?_;refine vr 4 ?_;refine aA false rfl rfl (xh (by omega)) ?_;refine vr 2 ?_;refine aa [2] ?_;refine az ⟨.inr rfl,_,.tmp rfl (.nil),?_⟩;exact⟨rfl,_,rfl,by constructor <;> intro h <;> first | (cases h;done) | exact⟨rfl,h1,h2,h3⟩ | (obtain⟨h4,h5,h6,h7⟩:=h;first | (cases h4;done) | omega) | rfl⟩
   ·
    skip
    refine ab ?_;refine vr 2 ?_;refine D6 p7 rfl rfl ?_;refine vr 3 ?_;refine aA true rfl rfl (oX h1) ?_;refine vr 4 ?_;refine aA false rfl rfl (xh (by omega)) ?_;refine vr 7 ?_;refine aa [2] ?_;refine az ⟨.inr rfl,_,.tmp rfl (.nil),?_⟩;exact⟨rfl,_,rfl,by constructor <;> intro h <;> first | (cases h;done) | exact⟨rfl,h1,h2,h3⟩ | (obtain⟨h4,h5,h6,h7⟩:=h;first | (cases h4;done) | omega) | rfl⟩
  ·
   skip
   refine ab ?_;refine vr 2 ?_;refine D6 p7 rfl rfl ?_;refine vr 3 ?_;refine aA false rfl rfl (xh (by omega)) ?_;refine vr 12 ?_;refine aa [2] ?_;refine az ⟨.inr rfl,_,.tmp rfl (.nil),?_⟩;exact⟨rfl,_,rfl,by constructor <;> intro h <;> first | (cases h;done) | exact⟨rfl,h1,h2,h3⟩ | (obtain⟨h4,h5,h6,h7⟩:=h;first | (cases h4;done) | omega) | rfl⟩
def vH(n d:Int)(b:Option Addr):Bool:=b.isNone&&(decide (-2147483647≤n)&&(decide (n≤2147483647)&&decide (d≤2147483647)))
theorem zM{n d:Int}{b:Option Addr}:vH n d b=true↔b=none∧-2147483647≤n∧n≤2147483647∧d≤2147483647:=by
 simp[vH]
theorem oo{H:Heap}{n d:Int}{b:Option Addr}:Fn Tryz.prog 184 #[N3 n d b] H (qX H (.bool (vH n d b))):=
 adA.mono fun v H' ⟨h1,t,h2,h3⟩=>⟨h1,by rw[h2];congr 1;rw[Bool.eq_iff_iff,h3,zM]⟩
theorem Jn{H:Heap}{n d:Int}(h1: -9223372036854775807≤n)(h2:n≤9223372036854775807)(h3:0<d)(h4:d≤9223372036854775807):
 Fn Tryz.prog 185 #[.int .i64 n,.int .i64 d] H (qY H ((n:Rat)/(d:Rat))):=by
 have tV:=lowest (n:=n) h3;refine aZ (args:=[_,_]) Tryz.func185 rfl rfl Tryz.ntmps185 rfl rfl fun w0=> ?_;refine ag [0,1] rfl ?_;refine ab ?_;refine bt dM rfl ?_;refine aa [0,1,4] ?_;refine ab ?_;refine vr 2 ?_;refine sx rfl ⟨by omega,by omega⟩ ?_;refine abt rfl rfl ?_;rw[show (if -n>n then -n else n)=((n.natAbs:Nat):Int) by split <;> omega];refine vr 3 ?_;refine aa [0,1,4,5,6] ?_;refine al ?_;refine aC ?_;refine gy (fun(a:Nat)(b:Nat)=>b) (fun(a:Nat)(b:Nat)=>put (put (put (put (put (emp) 0 (.val (.int .i64 n))) 1 (.val (.int .i64 d))) 4 (.box [.int .i64 0,.int .i64 0,.pointer none])) 5 (.val (.int .i64 (a:Int)))) 6 (.val (.int .i64 (b:Int)))) (fun(a:Nat)(b:Nat) H'=>H'=H∧Nat.gcd a b=Nat.gcd n.natAbs d.natAbs∧a≤9223372036854775807∧b≤9223372036854775807) n.natAbs d.natAbs (⟨rfl,rfl,by omega,by omega⟩) an ?_;rintro a b H1 ⟨rfl,hg,ha,kU⟩;refine al ?_;refine ab ?_;refine vr 2 ?_;refine aa [0,1,4,5,6,13] ?_;refine aB rfl (fun hb=> ?_) (fun hb=> ?_)
 ·
  have hb:0<b:=by simp at hb;omega
  refine au ?_;refine ag [0,1,4,5,6] rfl ?_;refine aC ?_;refine dZ .bF [0,1,2,3,4,5] follows (by kernel_rfl) ?_;refine vr 3 ?_;refine mj rfl rfl (by omega) (by omega) ?_;refine vr 2 ?_;refine aq ?_;exact⟨b,a%b,Nat.mod_lt a hb,an,rfl,by rw[←hg,Nat.gcd_comm b,←Nat.gcd_rec,Nat.gcd_comm],kU,by have:=Nat.mod_lt a hb;omega⟩
 ·
  have hb:b=0:=by simp at hb;omega
  subst hb;rw[Nat.gcd_zero_right]at hg
  have ha0:0<a:=by rw[hg];exact Nat.gcd_pos_of_pos_right _ (by omega)
  have iL:=ady (g:=a) h1 h2;have iM:(d/(a:Int))≤d∧0≤d/(a:Int):=⟨Int.ediv_le_self _ (by omega),Int.ediv_nonneg (by omega) (by omega)⟩;refine aU ?_;refine ag [0,1,4,5] rfl ?_;refine bJ .bF [0,1,2,3,4,5,6,7] follows (by kernel_rfl) ?_;refine vr 2 ?_;refine S0 rfl rfl (by omega) ⟨by omega,by omega⟩ ?_;refine vr 2 ?_;refine lq rfl rfl (by omega) (by omega) ⟨by omega,by omega⟩ ?_;refine dS ae rfl dM rfl rfl ?_;obtain⟨ti,aj,ak⟩:=bV;refine aJ (.inl ⟨rfl,rfl⟩) rfl rfl rfl aj ak rfl rfl rfl ?_;refine aa [4] ?_;obtain⟨bX,aK,aL⟩:=bV;refine az ⟨.inr rfl,_,.agg rfl Tryz.underlying90 aK aL (.nil),?_⟩;rw[←hg]at tV;refine⟨.refl _,_,rfl,n.tdiv a,d/(a:Int),none,rfl,.inl ⟨rfl,tV.1.symm,?_,iL.1,iL.2,by omega⟩⟩;rw[tV.2]
  have e:d=(d.natAbs:Int):=by omega
  rw[e,Int.natAbs_natCast];rfl
theorem iT{H:Heap}{vs:List Value}{q:Rat}(hv:bE H vs q)(hN:(aG q:Int)≤1099511627776):
 Fn Tryz.prog 53 #[.agg vs.toArray] H (fun v H'=>Heap.le H H'∧v = .int .i64 (fo q)):=by
 obtain⟨n,d,b,rfl,iv⟩:=id hv
 have cO:=fun ad f u w (h:bK H (.agg #[.bool f,u,w]) q)(_:b=some ad)=>h.raw
 have hs:=Uh q;refine aZ (args:=[_]) Tryz.func53 rfl rfl Tryz.ntmps53 rfl rfl fun w0=> ?_;refine ag [0] rfl ?_;refine ab ?_;refine bS rfl rfl ?_;refine vr 1 ?_;refine aa [1] ?_;refine al ?_;refine aC ?_
 rcases iv with ⟨rfl,hn,hd,h1,h2,h3⟩ | ⟨ad,f,u,w,rfl,pf,mD,iS,lS⟩
 ·
  skip
  refine ab ?_;refine vr 2 ?_;refine wU p7 rfl rfl ?_;refine vr 1 ?_;refine aa [1,3] ?_;refine cU rfl ?_;refine ab ?_;refine vr 4 ?_;refine aa [1,12] ?_;refine aB rfl (fun hb=> ?_) (fun hb=> ?_)
  ·
   have hb:n<0:=by simpa using hb
   rw[if_neg (by omega),decide_eq_true (by omega)]at hs;refine ab ?_;refine vr 1 ?_;refine aa [2] ?_;refine az ⟨.inr rfl,_,.tmp rfl (.nil),?_⟩;exact⟨.refl _,by rw[hs];rfl⟩
  ·
   have hb:0≤n:=by simpa using hb
   refine ab ?_;refine vr 4 ?_;refine aa [16] ?_;refine aB rfl (fun hb=> ?_) (fun hb=> ?_)
   ·
    have hb:0<n:=by simpa using hb
    rw[if_neg (by omega),decide_eq_false (by omega)]at hs;refine ab ?_;refine vr 1 ?_;refine aa [2] ?_;refine az ⟨.inr rfl,_,.tmp rfl (.nil),?_⟩;exact⟨.refl _,by rw[hs];rfl⟩
   ·
    have cS:n≤0:=by simpa using hb
    rw[if_pos (by omega)]at hs;refine au ?_;refine ag [] rfl ?_;refine ab ?_;refine vr 1 ?_;refine aa [2] ?_;refine az ⟨.inr rfl,_,.tmp rfl (.nil),?_⟩;exact⟨.refl _,by rw[hs];rfl⟩
 ·
  obtain⟨u1,w1,zL,eu,fX⟩:=id pf
  obtain⟨rfl,rfl,rfl⟩:f=decide (q.num<0)∧u=u1∧w=w1:=by simpa using zL
  obtain⟨lT,lU,rfl,lV,lW⟩:=id eu;obtain⟨Co,Cp,rfl,Cq,Cr⟩:=id fX;refine ab ?_;refine vr 2 ?_;refine wU p7 rfl rfl ?_;refine vr 1 ?_;refine aa [1,3] ?_;refine cD rfl ?_;refine ab ?_;refine vr 3 ?_;refine wV (vs:=[.bool _,_,_]) ae rfl rfl rfl (Jl mD iS lS) ?_;refine aw rfl rfl (vC pf.raw hN) ?_;rintro v1 H1 ⟨bH,rfl⟩;refine vr 1 ?_;refine aa [2] ?_;refine az ⟨.inr rfl,_,.tmp rfl (.nil),?_⟩;exact⟨bH,rfl⟩
theorem Cv{H:Heap}{vs:List Value}{q:Rat}(hv:bE H vs q)(hN:(aG q:Int)≤1099511627776):
 Fn Tryz.prog 58 #[.agg vs.toArray] H (qY H (-q)):=by
 obtain⟨n,d,b,rfl,iv⟩:=id hv
 have cO:=fun ad f u w (h:bK H (.agg #[.bool f,u,w]) q)(_:b=some ad)=>h.raw;refine aZ (args:=[_]) Tryz.func58 rfl rfl Tryz.ntmps58 rfl rfl fun w0=> ?_;refine ag [0] rfl ?_;refine ab ?_;refine bS rfl rfl ?_;refine bt dM rfl ?_;refine aa [1,2] ?_;refine al ?_
 rcases iv with ⟨rfl,hn,hd,h1,h2,h3⟩ | ⟨ad,f,u,w,rfl,pf,mD,iS,lS⟩
 ·
  skip
  refine ab ?_;refine vr 2 ?_;refine wU p7 rfl rfl ?_;refine aa [1,2,5] ?_;refine cU rfl ?_;refine au ?_;refine ag [1,2] rfl ?_;refine ab ?_;refine vr 2 ?_;refine sx rfl ⟨by omega,by omega⟩ ?_;refine vr 2 ?_;refine dS ae rfl dM rfl rfl ?_;obtain⟨ti,aj,ak⟩:=bV;refine aJ (.inl ⟨rfl,rfl⟩) rfl rfl rfl aj ak rfl rfl rfl ?_;refine aa [2] ?_;obtain⟨bX,aK,aL⟩:=bV;refine az ⟨.inr rfl,_,.agg rfl Tryz.underlying90 aK aL (.nil),?_⟩;exact⟨.refl _,_,rfl,-n,d,none,rfl,.inl ⟨rfl,by rw[Rat.neg_num,hn],by rw[Rat.neg_den,hd],by omega,by omega,by omega⟩⟩
 ·
  obtain⟨u1,w1,zL,eu,fX⟩:=id pf
  obtain⟨rfl,rfl,rfl⟩:f=decide (q.num<0)∧u=u1∧w=w1:=by simpa using zL
  obtain⟨lT,lU,rfl,lV,lW⟩:=id eu;obtain⟨Co,Cp,rfl,Cq,Cr⟩:=id fX;refine ab ?_;refine vr 2 ?_;refine wU p7 rfl rfl ?_;refine aa [1,2,5] ?_;refine cD rfl ?_;refine ab ?_;refine vr 3 ?_;refine wV (vs:=[.bool _,_,_]) ae rfl rfl rfl (Jl mD iS lS) ?_;refine aw rfl rfl (adv pf.raw hN) ?_;rintro w1 G1 ⟨fc,bW⟩;obtain⟨u1,x1,rfl,eu,eD⟩:=id bW;obtain⟨lT,lU,rfl,lV,lW⟩:=id eu;obtain⟨sL,sM,rfl,sN,sO⟩:=id eD;refine aw rfl rfl (xP bW) ?_;rintro w2 G2 ⟨dD,Jm,rfl,bN⟩;obtain⟨n2,d2,b2,rfl,_⟩:=id bN;obtain⟨ti,aj,ak⟩:=bV;refine aJ (.inl ⟨rfl,rfl⟩) rfl rfl rfl aj ak rfl rfl rfl ?_;refine aa [2] ?_;obtain⟨bX,aK,aL⟩:=bV;refine az ⟨.inr rfl,_,.agg rfl Tryz.underlying90 aK aL (.nil),?_⟩;exact⟨fc.trans dD,_,rfl,bN⟩
end Go.ar
namespace Lp
def aX:Nat→(Nat→Rat)→Rat
 | 0,_=>0
 | n+1,f=>aX n f+f n
theorem fG(n:Nat)(f:Nat→Rat):aX (n+1) f=aX n f+f n:=rfl
theorem Cw(f:Nat→Rat):aX 0 f=0:=rfl
theorem eO{n:Nat}{f g:Nat→Rat}(h:∀i,i<n→f i=g i):aX n f=aX n g:=by
 induction n with
 | zero=>rfl
 | succ n ih=>
  rw[fG,fG,ih (fun i hi=>h i (by omega)),h n (by omega)]
theorem ND(n:Nat)(f g:Nat→Rat):aX n (fun i=>f i+g i)=aX n f+aX n g:=by
 induction n with
 | zero=>simp only[aX];grind
 | succ n ih=>simp only[fG,ih];grind
theorem EU(n:Nat)(f g:Nat→Rat):aX n (fun i=>f i-g i)=aX n f-aX n g:=by
 induction n with
 | zero=>simp only[aX];grind
 | succ n ih=>simp only[fG,ih];grind
theorem vI(n:Nat)(k:Rat)(f:Nat→Rat):aX n (fun i=>k*f i)=k*aX n f:=by
 induction n with
 | zero=>simp[aX]
 | succ n ih=>simp only[fG,ih];grind
theorem ua(n:Nat)(k:Rat)(f:Nat→Rat):aX n (fun i=>f i*k)=aX n f*k:=by
 induction n with
 | zero=>simp[aX]
 | succ n ih=>simp only[fG,ih];grind
theorem Jo(n:Nat)(f:Nat→Rat):aX n (fun i=> - f i) = - aX n f:=by
 induction n with
 | zero=>simp only[aX];grind
 | succ n ih=>simp only[fG,ih];grind
theorem Jp(n:Nat):aX n (fun _=>0)=0:=by
 induction n with
 | zero=>rfl
 | succ n ih=>rw[fG,ih];grind
theorem mE{n:Nat}{f:Nat→Rat}(h:∀i,i<n→f i=0):aX n f=0:=by
 rw[eO h,Jp]
theorem sP{n k:Nat}(hk:k<n)(f:Nat→Rat)(h:∀i,i<n→i≠k→f i=0):aX n f=f k:=by
 induction n with
 | zero=>omega
 | succ n ih=>
  rw[fG]
  by_cases e:k=n
  ·subst e
   rw[mE (fun i hi=>h i (by omega) (by omega))];grind
  ·rw[ih (by omega) (fun i hi aY=>h i (by omega) aY),h n (by omega) (by omega)];grind
theorem Jq(m n:Nat)(f:Nat→Nat→Rat):
  aX m (fun i=>aX n (fun j=>f i j))=aX n (fun j=>aX m (fun i=>f i j)):=by
 induction m with
 | zero=>simp[aX,Jp]
 | succ m ih=>simp only[fG,ih,ND]
theorem EW{n:Nat}{f:Nat→Rat}(h:∀i,i<n→0≤f i):0≤aX n f:=by
 induction n with
 | zero=>exact Rat.le_refl
 | succ n ih=>
  rw[fG]
  have h1:=ih (fun i hi=>h i (by omega))
  have h2:=h n (by omega)
  grind
theorem Jr{n:Nat}{f g:Nat→Rat}(h:∀i,i<n→f i≤g i):aX n f≤aX n g:=by
 induction n with
 | zero=>exact Rat.le_refl
 | succ n ih=>
  rw[fG,fG]
  have h1:=ih (fun i hi=>h i (by omega))
  have h2:=h n (by omega)
  grind
theorem adB{n:Nat}{f:Nat→Rat}(h:0<aX n f):∃i,i<n∧0<f i:=by
 false_or_by_contra
 rename_i hc
 have:aX n f≤aX n (fun _=>0):=Jr (fun i hi=>by
  have:¬0<f i:=fun hp=>hc ⟨i,hi,hp⟩
  grind)
 rw[Jp]at this
 grind
theorem Ul{n k:Nat}(hk:k<n)(f:Nat→Rat):aX n (fun i=>if i=k then f i else 0)=f k:=by
 rw[sP hk _ (fun i _ aY=>if_neg aY),if_pos rfl]
structure ao where
 m:Nat
 n:Nat
 A:Nat→Nat→Rat
 c:Nat→Rat
 B:Nat→Nat
namespace ao
def pg(T:ao)(x:Nat→Rat):Prop:=∀i,i<T.m→aX (T.n+1) (fun j=>T.A i j*x j)=0
def cost(T:ao)(x:Nat→Rat):Rat:=aX (T.n+1) (fun j=>T.c j*x j)
structure WF(T:ao):Prop where
 lt:∀i,i<T.m→T.B i<T.n
 unit:∀i k,i<T.m→k<T.m→T.A k (T.B i)=if k=i then 1 else 0
 zero:∀i,i<T.m→T.c (T.B i)=0
theorem WF.inj{T:ao}(h:T.WF){i k:Nat}(hi:i<T.m)(hk:k<T.m)(e:T.B i=T.B k):i=k:=by
 have h1:=h.unit i k hi hk
 have h2:=h.unit k k hk hk
 rw[e,h2]at h1
 simp at h1
 exact h1.symm
def jO(T:ao):Prop:=∀i,i<T.m→0≤T.A i T.n
def dir(T:ao)(s:Nat)(j:Nat):Rat:=(if j=s then 1 else 0)-aX T.m (fun i=>if T.B i=j then T.A i s else 0)
theorem Cx(T:ao)(hB:∀i,i<T.m→T.B i<T.n)(s:Nat)(hs:s≤T.n)(f:Nat→Rat):
  aX (T.n+1) (fun j=>f j*T.dir s j)=f s-aX T.m (fun i=>f (T.B i)*T.A i s):=by
 have e1:∀j,f j*T.dir s j=(if j=s then f j else 0)-aX T.m (fun i=>if j=T.B i then f j*T.A i s else 0):=by
  intro j
  unfold dir
  have:aX T.m (fun i=>if j=T.B i then f j*T.A i s else 0)=f j*aX T.m (fun i=>if T.B i=j then T.A i s else 0):=by
   rw[←vI]
   refine eO fun i _=> ?_
   by_cases e:T.B i=j
   ·rw[if_pos e,if_pos e.symm]
   ·rw[if_neg e,if_neg (fun h=>e h.symm)];grind
  rw[this]
  by_cases e:j=s
  ·rw[if_pos e,if_pos e];grind
  ·rw[if_neg e,if_neg e];grind
 rw[eO (fun j _=>e1 j),EU,Ul (by omega)]
 congr 1
 rw[Jq]
 refine eO fun i hi=> ?_
 have:=hB i hi
 exact Ul (f:=fun j=>f j*T.A i s) (by omega)
theorem xQ{T:ao}(h:T.WF)(s:Nat)(hs:s≤T.n):T.pg (T.dir s):=by
 intro k hk
 rw[Cx T h.lt s hs]
 rw[sP hk]
 ·rw[h.unit k k hk hk,if_pos rfl];grind
 ·intro i hi aY
  rw[h.unit i k hi hk,if_neg (fun e=>aY e.symm)];grind
theorem Cy{T:ao}(h:T.WF)(s:Nat)(hs:s≤T.n):T.cost (T.dir s)=T.c s:=by
 unfold cost
 rw[Cx T h.lt s hs,mE]
 ·grind
 ·intro i hi;rw[h.zero i hi];grind
def pivot(T:ao)(r s:Nat):ao:=
 {m:=T.m,n:=T.n
  A:=fun i j=>if i=r then T.A r j/T.A r s else T.A i j-T.A i s*(T.A r j/T.A r s)
  c:=fun j=>T.c j-T.c s*(T.A r j/T.A r s)
  B:=fun i=>if i=r then s else T.B i}
theorem zN{T:ao}(h:T.WF){r s:Nat}(hr:r<T.m)(hs:s<T.n)(hp:T.A r s≠0):(T.pivot r s).WF:=by
 refine⟨fun i hi=> ?_,fun i k hi hk=> ?_,fun i hi=> ?_⟩
 ·simp only[pivot]at hi⊢
  split
  ·exact hs
  ·exact h.lt i hi
 ·simp only[pivot]at hi hk⊢
  by_cases ei:i=r
  ·simp only[if_pos ei]
   by_cases ek:k=r
   ·simp only[ek,ei,if_true];grind
   ·simp only[if_neg ek]
    rw[if_neg (by omega)];grind
  ·simp only[if_neg ei]
   have hu:=h.unit i r hi hr
   rw[if_neg (fun e=>ei e.symm)]at hu
   rw[hu]
   by_cases ek:k=r
   ·simp only[if_pos ek]
    rw[if_neg (by omega)];grind
   ·simp only[if_neg ek]
    rw[h.unit i k hi hk];grind
 ·simp only[pivot]at hi⊢
  by_cases ei:i=r
  ·simp only[if_pos ei];grind
  ·simp only[if_neg ei]
   have hu:=h.unit i r hi hr
   rw[if_neg (fun e=>ei e.symm)]at hu
   rw[hu,h.zero i hi];grind
theorem Um(T:ao)(r s i:Nat)(x:Nat→Rat):
  aX (T.n+1) (fun j=>(T.pivot r s).A i j*x j) =
   if i=r then aX (T.n+1) (fun j=>T.A r j*x j)/T.A r s
   else aX (T.n+1) (fun j=>T.A i j*x j)-T.A i s*(aX (T.n+1) (fun j=>T.A r j*x j)/T.A r s):=by
 simp only[pivot]
 by_cases e:i=r
 ·simp only[if_pos e]
  rw[Rat.div_def,←ua]
  exact eO fun j _=>by grind
 ·simp only[if_neg e]
  rw[Rat.div_def,←ua,←vI,←EU]
  exact eO fun j _=>by grind
theorem NF{T:ao}{r s:Nat}(hr:r<T.m)(hp:T.A r s≠0)(x:Nat→Rat):(T.pivot r s).pg x↔T.pg x:=by
 constructor
 ·intro h i hi
  have dt:=h r hr
  have fH:=h i hi
  have en:(T.pivot r s).n=T.n:=rfl
  rw[en,Um]at dt fH
  rw[if_pos rfl]at dt
  have h0:aX (T.n+1) (fun j=>T.A r j*x j)=0:=by grind
  by_cases e:i=r
  ·subst e;exact h0
  ·rw[if_neg e]at fH;grind
 ·intro h i hi
  have en:(T.pivot r s).n=T.n:=rfl
  have em:(T.pivot r s).m=T.m:=rfl
  rw[em]at hi
  rw[en,Um,h r hr,h i hi]
  split <;> grind
theorem Un{T:ao}{r s:Nat}(hr:r<T.m)(x:Nat→Rat)(hx:T.pg x):(T.pivot r s).cost x=T.cost x:=by
 have e:(T.pivot r s).cost x=T.cost x-T.c s*(aX (T.n+1) (fun j=>T.A r j*x j)/T.A r s):=by
  unfold cost
  simp only[pivot]
  rw[Rat.div_def,←ua,←vI,←EU]
  exact eO fun j _=>by grind
 rw[e,hx r hr];grind
structure ot(T:ao)(u r s:Nat):Prop where
 su:s<u
 neg:T.c s<0
 first:∀j,j<s→0≤T.c j
 rm:r<T.m
 pos:0<T.A r s
 least:∀i,i<T.m→0<T.A i s→T.A r T.n/T.A r s<T.A i T.n/T.A i s∨(T.A r T.n/T.A r s=T.A i T.n/T.A i s∧T.B r≤T.B i)
theorem NG{a b:Rat}(ha:0≤a)(hb:0<b):0≤a/b:=by
 rw[Rat.div_def]
 have:0<b⁻¹:=Rat.inv_pos.2 hb
 exact Rat.mul_nonneg ha (Rat.le_of_lt this)
theorem EX{T:ao}{u r s:Nat}(hf:T.jO)(hb:T.ot u r s):(T.pivot r s).jO:=by
 intro i hi
 have fH:i<T.m:=hi
 have hr:=hf r hb.rm
 have sk:=hf i fH
 have hq:0≤T.A r T.n/T.A r s:=NG hr hb.pos
 show 0≤(if i=r then T.A r T.n/T.A r s else T.A i T.n-T.A i s*(T.A r T.n/T.A r s))
 split
 ·exact hq
 ·by_cases hp:0<T.A i s
  ·have hl:T.A r T.n/T.A r s≤T.A i T.n/T.A i s:=by
    rcases hb.least i fH hp with h | h
    ·exact Rat.le_of_lt h
    ·rw[h.1];exact Rat.le_refl
   have h3:T.A i s*(T.A r T.n/T.A r s)≤T.A i s*(T.A i T.n/T.A i s):=Rat.mul_le_mul_of_nonneg_left hl (Rat.le_of_lt hp)
   have h4:T.A i s*(T.A i T.n/T.A i s)=T.A i T.n:=by grind
   grind
  ·have h5:0≤(- T.A i s)*(T.A r T.n/T.A r s):=Rat.mul_nonneg (by grind) hq
   grind
structure sQ(u:Nat)(len:Nat) where
 T:Nat→ao
 r:Nat→Nat
 s:Nat→Nat
 wf:(T 0).WF
 eF:(T 0).jO
 un:u≤(T 0).n
 step:∀k,k<len→(T k).ot u (r k) (s k)
 next:∀k,k<len→T (k+1)=(T k).pivot (r k) (s k)
namespace sQ
variable {u len:Nat} (R:sQ u len)
theorem Cz(k:Nat)(hk:k≤len):(R.T k).n=(R.T 0).n:=by
 induction k with
 | zero=>rfl
 | succ k ih=>rw[R.next k (by omega)];exact ih (by omega)
theorem sn{k:Nat}(hk:k<len):R.s k<(R.T k).n:=by
 have:=(R.step k hk).su
 have:=R.un
 rw[R.Cz k (by omega)];omega
theorem xR(k:Nat)(hk:k≤len):(R.T k).WF:=by
 induction k with
 | zero=>exact R.wf
 | succ k ih=>
  rw[R.next k (by omega)]
  have hb:=R.step k (by omega)
  have:=hb.pos
  exact zN (ih (by omega)) hb.rm (R.sn (by omega)) (by grind)
theorem adC(k:Nat)(hk:k≤len):(R.T k).jO:=by
 induction k with
 | zero=>exact R.eF
 | succ k ih=>
  rw[R.next k (by omega)]
  exact EX (ih (by omega)) (R.step k (by omega))
theorem Uo(k:Nat)(hk:k≤len)(x:Nat→Rat):(R.T k).pg x↔(R.T 0).pg x:=by
 induction k with
 | zero=>exact Iff.rfl
 | succ k ih=>
  rw[R.next k (by omega)]
  have hb:=R.step k (by omega)
  have:=hb.pos
  rw[NF hb.rm (by grind)]
  exact ih (by omega)
theorem Uq(k:Nat)(hk:k≤len)(x:Nat→Rat)(hx:(R.T 0).pg x):(R.T k).cost x=(R.T 0).cost x:=by
 induction k with
 | zero=>rfl
 | succ k ih=>
  rw[R.next k (by omega)]
  have hb:=R.step k (by omega)
  rw[Un hb.rm x ((R.Uo k (by omega) x).2 hx)]
  exact ih (by omega)
def basic(k j:Nat):Prop:=∃i,i<(R.T k).m∧(R.T k).B i=j
def val(T:ao)(j:Nat):Rat:=aX T.m (fun i=>if T.B i=j then T.A i T.n else 0)
theorem NH{T:ao}(h:T.WF){i:Nat}(hi:i<T.m):val T (T.B i)=T.A i T.n:=by
 unfold val
 rw[sP hi,if_pos rfl]
 intro k hk aY
 rw[if_neg]
 exact fun e=>aY (h.inj hk hi e)
def ub(k:Nat):Prop:=(R.T k).A (R.r k) (R.T k).n=0
theorem Ur{k:Nat}(hk:k<len)(hd:R.ub k)(j:Nat):val (R.T (k+1)) j=val (R.T k) j:=by
 rw[R.next k hk]
 unfold val
 unfold ub at hd
 refine eO fun i hi=> ?_
 simp only[pivot]
 rw[hd]
 by_cases e:i=R.r k
 ·subst e;simp only[if_true,hd];grind
 ·simp only[if_neg e];grind
theorem Us{a b:Nat}(zO:a≤b)(hb:b≤len)(hd:∀k,a≤k→k<b→R.ub k)(j:Nat):val (R.T b) j=val (R.T a) j:=by
 induction b with
 | zero=>obtain rfl:a=0:=by omega
         rfl
 | succ b ih=>
  by_cases e:a=b+1
  ·subst e;rfl
  ·rw[R.Ur (by omega) (hd b (by omega) (by omega))]
   exact ih (by omega) (by omega) (fun k h1 h2=>hd k h1 (by omega))
theorem EY{k:Nat}(hk:k<len)(j:Nat):R.basic (k+1) j↔(j=R.s k∨(R.basic k j∧j≠(R.T k).B (R.r k))):=by
 unfold basic
 rw[R.next k hk]
 have hb:=R.step k hk
 have hw:=R.xR k (by omega)
 constructor
 ·rintro⟨i,hi,e⟩
  have fH:i<(R.T k).m:=hi
  have e':(if i=R.r k then R.s k else(R.T k).B i)=j:=e
  by_cases er:i=R.r k
  ·rw[if_pos er]at e';exact .inl e'.symm
  ·rw[if_neg er]at e'
   refine .inr ⟨⟨i,fH,e'⟩,fun h=>er (hw.inj fH hb.rm (by rw[e',h]))⟩
 ·rintro(h | ⟨⟨i,hi,e⟩,aY⟩)
  ·refine⟨R.r k,hb.rm,?_⟩
   show (if R.r k=R.r k then R.s k else _)=j
   rw[if_pos rfl,h]
  ·refine⟨i,hi,?_⟩
   show (if i=R.r k then R.s k else(R.T k).B i)=j
   rw[if_neg,e]
   intro er;exact aY (by rw[←e,er])
theorem NI{k:Nat}(hk:k<len):¬R.basic k (R.s k):=by
 rintro⟨i,hi,e⟩
 have:=(R.xR k (by omega)).zero i hi
 rw[e]at this
 have:=(R.step k hk).neg
 grind
theorem NJ{k:Nat}(hk:k<len):R.basic k ((R.T k).B (R.r k)):=⟨_,(R.step k hk).rm,rfl⟩
theorem change{a b:Nat}(zO:a≤b)(hb:b≤len)(j:Nat)(h:¬(R.basic a j↔R.basic b j)):
  ∃k,a≤k∧k<b∧(R.s k=j∨(R.T k).B (R.r k)=j):=by
 induction b with
 | zero=>obtain rfl:a=0:=by omega
         exact absurd Iff.rfl h
 | succ b ih=>
  by_cases e:a=b+1
  ·subst e;exact absurd Iff.rfl h
  ·by_cases h2:R.s b=j∨(R.T b).B (R.r b)=j
   ·exact⟨b,by omega,by omega,h2⟩
   ·have:R.basic (b+1) j↔R.basic b j:=by
     rw[R.EY (by omega)]
     constructor
     ·rintro(h | h)
      ·exact absurd (.inl h.symm) h2
      ·exact h.1
     ·exact fun h=> .inr ⟨h,fun e=>h2 (.inr e.symm)⟩
    obtain⟨k,h3,h4,h5⟩:=ih (by omega) (by omega) (fun hh=>h (hh.trans this.symm))
    exact⟨k,h3,by omega,h5⟩
theorem val_zero{k:Nat}(hk:k<len)(hd:R.ub k){j:Nat}(h:R.s k=j∨(R.T k).B (R.r k)=j):val (R.T k) j=0:=by
 rcases h with h | h
 ·rw[←R.Ur hk hd]
  have e:j=(R.T (k+1)).B (R.r k):=by
   rw[R.next k hk]
   show j=if R.r k=R.r k then R.s k else _
   rw[if_pos rfl,h]
  rw[e,NH (R.xR (k+1) (by omega)) (by rw[R.next k hk];exact(R.step k hk).rm)]
  rw[R.next k hk]
  show (if R.r k=R.r k then(R.T k).A (R.r k) (R.T k).n/(R.T k).A (R.r k) (R.s k)else _)=0
  rw[if_pos rfl]
  unfold ub at hd
  rw[hd];grind
 ·rw[←h,NH (R.xR k (by omega)) (R.step k hk).rm]
  exact hd
theorem Js{a b t p q:Nat}(hb:b≤len)(hd:∀k,a≤k→k<b→R.ub k)
  (hle:∀k,a≤k→k<b→R.s k≤t∧(R.T k).B (R.r k)≤t) (fq:a≤p) (dO:p<b) (bW:a≤q) (bN:q<b)
  (hp:(R.T p).B (R.r p)=t) (hq:R.s q=t):False:=by
 have bp:=R.step p (by omega)
 have bq:=R.step q (by omega)
 have wp:=R.xR p (by omega)
 have hs:R.s p<t:=by
  have h1:=(hle p fq dO).1
  have h2:R.s p≠t:=fun e=>R.NI (k:=p) (by omega) (by rw[e,←hp];exact R.NJ (by omega))
  omega
 have lX:R.s p≤(R.T p).n:=Nat.le_of_lt (R.sn (by omega))
 have adD:=xQ wp (R.s p) lX
 have Ut:=(R.Uo p (by omega) _).1 adD
 have hc:=Cy wp (R.s p) lX
 rw[R.Uq p (by omega) _ Ut,←R.Uq q (by omega) _ Ut]at hc
 have en:(R.T q).n=(R.T p).n:=by rw[R.Cz p (by omega),R.Cz q (by omega)]
 unfold cost at hc
 rw[en,Cx _ wp.lt _ lX]at hc
 have je:0≤(R.T q).c (R.s p):=bq.first _ (by rw[hq];exact hs)
 have fI:=bp.neg
 have xS:0<aX (R.T p).m (fun i=>(R.T q).c ((R.T p).B i)*(R.T p).A i (R.s p)):=by grind
 obtain⟨i,hi,vJ⟩:=adB xS
 have ET:¬R.basic q ((R.T p).B i):=by
  rintro⟨k,hk,e⟩
  have:=(R.xR q (by omega)).zero k hk
  rw[e]at this
  rw[this]at vJ;grind
 have MV:R.basic p ((R.T p).B i):=⟨i,hi,rfl⟩
 have hex:∃k,a≤k∧k<b∧min p q≤k∧(R.s k=(R.T p).B i∨(R.T k).B (R.r k)=(R.T p).B i):=by
  rcases Nat.le_total p q with mu | mu
  ·obtain⟨k,h1,h2,h3⟩:=R.change mu (by omega) ((R.T p).B i) (fun h=>ET (h.1 MV))
   exact⟨k,by omega,by omega,by omega,h3⟩
  ·obtain⟨k,h1,h2,h3⟩:=R.change mu (by omega) ((R.T p).B i) (fun h=>ET (h.2 MV))
   exact⟨k,by omega,by omega,by omega,h3⟩
 obtain⟨k,fW,fA,_,de⟩:=hex
 have CA:(R.T p).B i≤t:=by
  rcases de with e | e
  ·rw[←e];exact(hle k fW fA).1
  ·rw[←e];exact(hle k fW fA).2
 have mC:val (R.T k) ((R.T p).B i)=0:=R.val_zero (by omega) (hd k fW fA) de
 have Uu:val (R.T p) ((R.T p).B i)=0:=by
  rcases Nat.le_total p k with h | h
  ·rw[←R.Us h (by omega) (fun x h1 h2=>hd x (by omega) (by omega))];exact mC
  ·rw[R.Us h (by omega) (fun x h1 h2=>hd x (by omega) (by omega))];exact mC
 rw[NH wp hi]at Uu
 by_cases et:(R.T p).B i=t
 ·have:i=R.r p:=wp.inj hi bp.rm (by rw[et,hp])
  subst this
  have h1:=bq.neg
  rw[hq,←et]at h1
  have h2:=bp.pos
  have h3:(R.T q).c ((R.T p).B (R.r p))*(R.T p).A (R.r p) (R.s p)<0:=by
   have:=Rat.mul_pos (show 0 < -(R.T q).c ((R.T p).B (R.r p)) by grind) h2
   grind
  grind
 ·have bU:(R.T p).B i<t:=by omega
  have mD:0≤(R.T q).c ((R.T p).B i):=bq.first _ (by rw[hq];exact bU)
  have hA:0<(R.T p).A i (R.s p):=by
   false_or_by_contra
   rename_i hn
   have:0≤(R.T q).c ((R.T p).B i)*(-(R.T p).A i (R.s p)):=Rat.mul_nonneg mD (by grind)
   grind
  have NK:=hd p fq dO
  unfold ub at NK
  have e0:(0:Rat)/(R.T p).A (R.r p) (R.s p)=0:=by grind
  have e1:(0:Rat)/(R.T p).A i (R.s p)=0:=by grind
  rcases bp.least i hi hA with h | h
  ·rw[NK,Uu,e0,e1]at h;exact absurd h (by decide)
  ·have:=h.2;omega
theorem short(t:Nat):∀a b,a≤b→b≤len→(∀k,a≤k→k<b→R.ub k)→
  (∀k,a≤k→k<b→R.s k<t∧(R.T k).B (R.r k)<t)→b<a+2^t:=by
 induction t with
 | zero=>
  intro a b zO hb hd bU
  by_cases e:a=b
  ·subst e;simp
  ·have:=bU a (Nat.le_refl _) (by omega);omega
 | succ t ih=>
  intro a b zO hb hd bU
  have hle:∀k,a≤k→k<b→R.s k≤t∧(R.T k).B (R.r k)≤t:=fun k h1 h2=>by
   have:=bU k h1 h2;omega
  have h2:2^(t+1)=2^t+2^t:=by rw[Nat.pow_succ];omega
  have vJ:0<2^t:=Nat.pow_pos (by omega)
  have once:∀k l,a≤k→k<l→l<b→(R.s k=t∨(R.T k).B (R.r k)=t)→¬(R.s l=t∨(R.T l).B (R.r l)=t):=by
   intro k l hk hkl hl iw kA
   rcases iw with iw | iw
   ·
    have bh:R.s l=t:=by
     rcases kA with h | h
     ·exact h
     ·exact(R.Js hb hd hle (p:=l) (q:=k) (by omega) (by omega) (by omega) (by omega) h iw).elim
    have xT:R.basic (k+1) t:=(R.EY (by omega) t).2 (.inl iw.symm)
    have ko:¬R.basic l t:=by rw[←bh];exact R.NI (by omega)
    obtain⟨x,h1,h2,h3⟩:=R.change (a:=k+1) (b:=l) (by omega) (by omega) t (fun h=>ko (h.1 xT))
    have hx:∀y,k+1≤y→y≤l→R.basic y t:=by
     intro y hy
     induction y with
     | zero=>omega
     | succ y NL=>
      intro jb
      by_cases e:k=y
      ·subst e;exact xT
      ·have:=NL (by omega) (by omega)
       refine(R.EY (by omega) t).2 (.inr ⟨this,fun e=> ?_⟩)
       exact R.Js hb hd hle (p:=y) (q:=k) (by omega) (by omega) (by omega) (by omega) e.symm iw
    exact ko (hx l (by omega) (Nat.le_refl _))
   ·have bh:(R.T l).B (R.r l)=t:=by
     rcases kA with h | h
     ·exact(R.Js hb hd hle (p:=k) (q:=l) (by omega) (by omega) (by omega) (by omega) iw h).elim
     ·exact h
    have xT:¬R.basic (k+1) t:=by
     rw[R.EY (by omega) t]
     rintro(h | h)
     ·exact R.NI (k:=k) (by omega) (by rw[←h,←iw];exact R.NJ (by omega))
     ·exact h.2 iw.symm
    have ko:R.basic l t:=by rw[←bh];exact R.NJ (by omega)
    have hx:∀y,k+1≤y→y≤l→¬R.basic y t:=by
     intro y hy
     induction y with
     | zero=>omega
     | succ y NL=>
      intro jb
      by_cases e:k=y
      ·subst e;exact xT
      ·have:=NL (by omega) (by omega)
       rw[R.EY (by omega) t]
       rintro(h | h)
       ·exact R.Js hb hd hle (p:=k) (q:=y) (by omega) (by omega) (by omega) (by omega) iw h.symm
       ·exact this h.1
    exact hx l (by omega) (Nat.le_refl _) ko
  by_cases hex:∃k,a≤k∧k<b∧(R.s k=t∨(R.T k).B (R.r k)=t)
  ·obtain⟨k,fW,fA,de⟩:=hex
   have h3:=ih a k (by omega) (by omega) (fun x h1 h2=>hd x h1 (by omega)) (fun x h1 h2=>by
    have hl:=hle x h1 (by omega)
    have hn:¬(R.s x=t∨(R.T x).B (R.r x)=t):=fun h=>once x k h1 h2 fA h de
    omega)
   have h4:=ih (k+1) b (by omega) hb (fun x h1 h2=>hd x (by omega) h2) (fun x h1 h2=>by
    have hl:=hle x (by omega) h2
    have hn:=once k x fW (by omega) h2 de
    omega)
   omega
  ·have h3:=ih a b zO hb hd (fun x h1 h2=>by
    have hl:=hle x h1 h2
    have hn:¬(R.s x=t∨(R.T x).B (R.r x)=t):=fun h=>hex ⟨x,h1,h2,h⟩
    omega)
   omega
end sQ
end ao
end Lp
namespace Lp
namespace ao
structure jP(T S:ao):Prop where
 m:S.m=T.m
 n:S.n=T.n
 m6:∀x,S.pg x↔T.pg x
 cost:∀x,T.pg x→S.cost x=T.cost x
theorem jP.symm{T S:ao}(h:jP T S):jP S T:=⟨h.m.symm,h.n.symm,fun x=>(h.m6 x).symm,fun x hx=>(h.cost x ((h.m6 x).1 hx)).symm⟩
theorem jP.trans{T S R:ao}(h:jP T S)(h':jP S R):jP T R:=
 ⟨h'.m.trans h.m,h'.n.trans h.n,fun x=>(h'.m6 x).trans (h.m6 x),fun x hx=>(h'.cost x ((h.m6 x).2 hx)).trans (h.cost x hx)⟩
theorem jP.pivot{T:ao}{r s:Nat}(hr:r<T.m)(hp:T.A r s≠0):jP T (T.pivot r s):=
 ⟨rfl,rfl,fun x=>NF hr hp x,fun x hx=>Un hr x hx⟩
theorem adE{T S:ao}(h:jP T S)(hT:T.WF)(hS:S.WF)(hB:∀i,i<T.m→S.B i=T.B i):S.c S.n=T.c T.n:=by
 have h1:=xQ hT T.n (Nat.le_refl _)
 have h2:=h.cost _ h1
 rw[Cy hT T.n (Nat.le_refl _)]at h2
 unfold cost at h2
 rw[h.n,Cx T hT.lt _ (Nat.le_refl _),mE]at h2
 ·rw[h.n];grind
 ·intro i hi
  rw[←hB i hi,hS.zero i (by rw[h.m];exact hi)];grind
def EZ(n:Nat):Nat→List (List Nat)
 | 0=>[[]]
 | m+1=>(EZ n m).flatMap fun l=>(List.range n).map fun j=>l ++ [j]
theorem adF(n m:Nat)(f:Nat→Nat)(h:∀i,i<m→f i<n):(List.range m).map f∈EZ n m:=by
 induction m with
 | zero=>simp[EZ]
 | succ m ih=>
  simp only[EZ,List.mem_flatMap,List.mem_map,List.mem_range]
  exact⟨_,ih (fun i hi=>h i (by omega)),f m,h m (by omega),by rw[List.range_succ,List.map_append];rfl⟩
theorem Uv{α:Type}(p q:α→Bool)(l:List α)(h:∀x,x∈l→p x=true→q x=true)
  (hx:∃x,x∈l∧q x=true∧p x=false):l.countP p<l.countP q:=by
 induction l with
 | nil=>obtain⟨x,hx,_⟩:=hx;cases hx
 | cons a l ih=>
  have hle:l.countP p≤l.countP q:=List.countP_mono_left fun x hx hp=>h x (List.mem_cons_of_mem _ hx) hp
  rw[List.countP_cons,List.countP_cons]
  obtain⟨x,eD,eE,gC⟩:=hx
  rcases List.mem_cons.1 eD with e | e
  ·subst e
   rw[eE,gC];simp;omega
  ·have:=ih (fun y hy=>h y (List.mem_cons_of_mem _ hy)) ⟨x,e,eE,gC⟩
   have ha:=h a (List.mem_cons_self ..)
   cases hp:p a
   ·simp;omega
   ·rw[ha hp];simp;omega
def Jt(T:ao)(l:List Nat):Prop:=∃S:ao,S.WF∧jP T S∧(List.range T.m).map S.B=l∧T.c T.n<S.c S.n
open Classical in
noncomputable def vK(T:ao):Nat:=(EZ T.n T.m).countP fun l=>decide (Jt T l)
theorem Jt.of{T S:ao}(h:jP T S)(hv:T.c T.n≤S.c S.n){l:List Nat}(hb:Jt S l):Jt T l:=by
 obtain⟨R,h1,h2,h3,h4⟩:=hb
 refine⟨R,h1,h.trans h2,by rw[←h.m];exact h3,by grind⟩
open Classical in
theorem adG{T S:ao}(h:jP T S)(hv:T.c T.n≤S.c S.n):vK S≤vK T:=by
 unfold vK
 rw[h.m,h.n]
 exact List.countP_mono_left fun l _ hp=>by
  have:=of_decide_eq_true hp
  exact decide_eq_true (this.of h hv)
open Classical in
theorem adH{T S:ao}(h:jP T S)(hS:S.WF)(hv:T.c T.n<S.c S.n):vK S<vK T:=by
 unfold vK
 rw[h.m,h.n]
 refine Uv _ _ _ (fun l _ hp=> ?_) ⟨(List.range T.m).map S.B,?_,?_,?_⟩
 ·have:=of_decide_eq_true hp
  exact decide_eq_true (this.of h (Rat.le_of_lt hv))
 ·exact adF _ _ _ (fun i hi=>by rw[←h.n];exact hS.lt i (by rw[h.m];exact hi))
 ·exact decide_eq_true ⟨S,hS,h,rfl,hv⟩
 ·refine decide_eq_false ?_
  rintro⟨R,h1,h2,h3,h4⟩
  have:R.c R.n=S.c S.n:=adE h2 hS h1 (fun i hi=>by
   rw[h.m]at h3 hi
   exact List.map_inj_left.1 h3 i (List.mem_range.2 hi))
  grind
theorem adI{T:ao}{u r s:Nat}(hf:T.jO)(hb:T.ot u r s):
  T.c T.n≤(T.pivot r s).c (T.pivot r s).n∧(T.A r T.n≠0→T.c T.n<(T.pivot r s).c (T.pivot r s).n):=by
 have e:(T.pivot r s).c (T.pivot r s).n=T.c T.n-T.c s*(T.A r T.n/T.A r s):=rfl
 rw[e]
 have hq:=NG (hf r hb.rm) hb.pos
 have hn:=hb.neg
 constructor
 ·have:=Rat.mul_nonneg (show 0≤- T.c s by grind) hq
  grind
 ·intro h0
  have hp:0<T.A r T.n/T.A r s:=by
   have vJ:=hb.pos
   have:T.A r T.n/T.A r s≠0:=fun h=>h0 (by
    have:T.A r T.n/T.A r s*T.A r s=T.A r T.n:=by grind
    grind)
   grind
  have:=Rat.mul_pos (show 0 < - T.c s by grind) hp
  grind
def Step(u:Nat)(S T:ao):Prop:=∃r s,T.ot u r s∧S=T.pivot r s
def sQ.nil{u:Nat}(T:ao)(hw:T.WF)(hf:T.jO)(hu:u≤T.n):sQ u 0:=
 {T:=fun _=>T,r:=fun _=>0,s:=fun _=>0,wf:=hw,eF:=hf,un:=hu
  step:=fun k hk=>absurd hk (by omega),next:=fun k hk=>absurd hk (by omega)}
def sQ.snoc{u h:Nat}(R:sQ u h)(r s:Nat)(hb:(R.T h).ot u r s):sQ u (h+1):=
 {T:=fun k=>if k≤h then R.T k else(R.T h).pivot r s
  r:=fun k=>if k<h then R.r k else r
  s:=fun k=>if k<h then R.s k else s
  wf:=by simpa using R.wf
  eF:=by simpa using R.eF
  un:=by simpa using R.un
  step:=fun k hk=>by
   simp only[show k≤h by omega,if_true]
   by_cases e:k<h
   ·simp only[e,if_true];exact R.step k e
   ·simp only[e,if_false]
    obtain rfl:k=h:=by omega
    exact hb
  next:=fun k hk=>by
   simp only[show k≤h by omega,if_true]
   by_cases e:k<h
   ·simp only[e,if_true,show k+1≤h by omega];exact R.next k e
   ·simp only[e,if_false]
    obtain rfl:k=h:=by omega
    simp only[show ¬(k+1≤k) by omega,if_false]}
theorem ends(u:Nat):∀(v:Nat)(T:ao),T.WF→T.jO→u≤T.n→vK T≤v→Acc (Step u) T:=by
 intro v
 induction v using Nat.strongRecOn with
 | _ v ih=>
  intro T hw hf hu hv
  have key:∀d h (R:sQ u h),(∀k,k<h→R.ub k)→vK (R.T h)≤v→2^(R.T 0).n≤h+d→Acc (Step u) (R.T h):=by
   intro d
   induction d with
   | zero=>
    intro h R hd hr hp
    have:=R.short (R.T 0).n 0 h (by omega) (Nat.le_refl _) (fun k _ hk=>hd k hk) (fun k _ hk=>by
     refine⟨?_,?_⟩
     ·have:=R.sn hk
      rw[R.Cz k (by omega)]at this;exact this
     ·have:=(R.xR k (by omega)).lt _ (R.step k hk).rm
      rw[R.Cz k (by omega)]at this;exact this)
    omega
   | succ d ihd=>
    intro h R hd hr hp
    refine Acc.intro _ fun S hS=> ?_
    obtain⟨r,s,hb,rfl⟩:=hS
    have NM:=R.xR h (Nat.le_refl _)
    have NN:=R.adC h (Nat.le_refl _)
    have o0:u≤(R.T h).n:=by rw[R.Cz h (Nat.le_refl _)];exact R.un
    have vJ:=hb.pos
    have aY:(R.T h).A r s≠0:=by grind
    have lX:s<(R.T h).n:=by have:=hb.su;omega
    have p8:=jP.pivot hb.rm aY
    have xU:=adI NN hb
    by_cases h0:(R.T h).A r (R.T h).n=0
    ·have e:(R.snoc r s hb).T (h+1)=(R.T h).pivot r s:=by
      show (if h+1≤h then _ else _)=_
      rw[if_neg (by omega)]
     rw[←e]
     refine ihd (h+1) (R.snoc r s hb) (fun k hk=> ?_) ?_ ?_
     ·unfold sQ.ub
      have e1:(R.snoc r s hb).T k=R.T k:=by
       show (if k≤h then _ else _)=_
       rw[if_pos (by omega)]
      rw[e1]
      by_cases ek:k<h
      ·have e2:(R.snoc r s hb).r k=R.r k:=by
        show (if k<h then _ else _)=_
        rw[if_pos ek]
       rw[e2];exact hd k ek
      ·obtain rfl:k=h:=by omega
       have e2:(R.snoc r s hb).r k=r:=by
        show (if k<k then _ else _)=_
        rw[if_neg (by omega)]
       rw[e2];exact h0
     ·rw[e];exact Nat.le_trans (adG p8 xU.1) hr
     ·have e3:(R.snoc r s hb).T 0=R.T 0:=by
       show (if 0≤h then R.T 0 else(R.T h).pivot r s)=_
       rw[if_pos (by omega)]
      rw[e3];omega
    ·have bU:=adH p8 (zN NM hb.rm lX aY) (xU.2 h0)
     exact ih (vK ((R.T h).pivot r s)) (by omega) _ (zN NM hb.rm lX aY) (EX NN hb) o0 (Nat.le_refl _)
  have:=key (2^T.n) 0 (sQ.nil T hw hf hu) (fun k hk=>absurd hk (by omega)) hv (by
   show 2^T.n≤0+2^T.n
   omega)
  exact this
theorem NO{u:Nat}{T:ao}(hw:T.WF)(hf:T.jO)(hu:u≤T.n):Acc (Step u) T:=ends u _ T hw hf hu (Nat.le_refl _)
end ao
end Lp
namespace Lp
structure LP where
 n:Nat
 m:Nat
 free:Nat→Bool
 a:Nat→Nat→Rat
 rel:Nat→Int
 b:Nat→Rat
def m7(r:Int)(x:Rat):Prop:=(r=1→x≤0)∧(r=2→x=0)∧(r=3→0≤x)
def cj(n:Nat)(c x:Nat→Rat):Rat:=aX n (fun j=>c j*x j)
namespace LP
variable (p:LP)
def Valid:Prop:=∀i,i<p.m→p.rel i=1∨p.rel i=2∨p.rel i=3
def jB(t:Rat)(x:Nat→Rat):Prop:=(∀j,j<p.n→p.free j=false→0≤x j)∧∀i,i<p.m→m7 (p.rel i) (cj p.n (p.a i) x-p.b i*t)
def Signed(y:Nat→Rat):Prop:=∀i,i<p.m→(p.rel i=3→0≤y i)∧(p.rel i=1→y i≤0)
def fD(y:Nat→Rat)(j:Nat):Rat:=aX p.m (fun i=>y i*p.a i j)
def ou(y:Nat→Rat):Rat:=aX p.m (fun i=>y i*p.b i)
structure vL(c x y:Nat→Rat):Prop where
 eF:p.jB 1 x
 signed:p.Signed y
 gM:∀j,j<p.n→0≤c j-p.fD y j∧(p.free j=true→c j-p.fD y j≤0)
 eq:p.ou y=cj p.n c x
structure xV(y:Nat→Rat):Prop where
 signed:p.Signed y
 gM:∀j,j<p.n→p.fD y j≤0∧(p.free j=true→0≤p.fD y j)
 pos:0<p.ou y
structure xW(c x r:Nat→Rat):Prop where
 eF:p.jB 1 x
 kV:p.jB 0 r
 neg:cj p.n c r<0
def p9:Prop:=∀x,¬p.jB 1 x
def qa(c:Nat→Rat)(v:Rat):Prop:=(∃x,p.jB 1 x∧cj p.n c x=v)∧∀x,p.jB 1 x→v≤cj p.n c x
def uc(c:Nat→Rat):Prop:=(∃x,p.jB 1 x)∧∀v,∃x,p.jB 1 x∧cj p.n c x<v
end LP
theorem Uw(n:Nat)(c x y:Nat→Rat):cj n c (fun j=>x j+y j)=cj n c x+cj n c y:=by
 unfold cj
 rw[←ND]
 exact eO fun j _=>by grind
theorem Ux(n:Nat)(c x:Nat→Rat)(k:Rat):cj n c (fun j=>k*x j)=k*cj n c x:=by
 unfold cj
 rw[←vI]
 exact eO fun j _=>by grind
theorem adJ{n:Nat}{c c' x x':Nat→Rat}(h:∀j,j<n→c j=c' j)(h':∀j,j<n→x j=x' j):cj n c x=cj n c' x':=
 eO fun j hj=>by rw[h j hj,h' j hj]
namespace LP
variable {p:LP}
theorem adK(p:LP)(y x:Nat→Rat):cj p.n (p.fD y) x=aX p.m (fun i=>y i*cj p.n (p.a i) x):=by
 unfold cj fD
 have h1:∀j,aX p.m (fun i=>y i*p.a i j)*x j=aX p.m (fun i=>y i*p.a i j*x j):=fun j=>(ua _ _ _).symm
 have h2:∀i,y i*aX p.n (fun j=>p.a i j*x j)=aX p.n (fun j=>y i*p.a i j*x j):=fun i=>by
  rw[←vI]
  exact eO fun j _=>by grind
 rw[eO (fun j _=>h1 j),eO (fun i _=>h2 i),Jq]
theorem Uy(hv:p.Valid){t:Rat}{x y:Nat→Rat}(hx:p.jB t x)(hy:p.Signed y):p.ou y*t≤cj p.n (p.fD y) x:=by
 rw[adK]
 unfold ou
 rw[←ua]
 refine Jr fun i hi=> ?_
 have h1:=hx.2 i hi
 have h2:=hy i hi
 rcases hv i hi with e | e | e
 ·have h3:=h1.1 e
  have h4:=h2.2 e
  have h5:0≤(- y i)*(- (cj p.n (p.a i) x-p.b i*t)):=Rat.mul_nonneg (by grind) (by grind)
  grind
 ·have h3:=h1.2.1 e
  have:cj p.n (p.a i) x=p.b i*t:=by grind
  rw[this];grind
 ·have h3:=h1.2.2 e
  have h4:=h2.1 e
  have h5:0≤y i*(cj p.n (p.a i) x-p.b i*t):=Rat.mul_nonneg h4 h3
  grind
theorem xV.isInf(hv:p.Valid){y:Nat→Rat}(h:p.xV y):p.p9:=fun x hx=>by
 have h1:=Uy hv hx h.signed
 have h2:cj p.n (p.fD y) x≤0:=by
  have:cj p.n (p.fD y) x≤aX p.n (fun _=>0):=Jr fun j hj=>by
   have h3:=h.gM j hj
   cases hf:p.free j with
   | true=>have h4:=h3.2 hf;have:p.fD y j=0:=by grind
           rw[this];grind
   | false=>
    have h5:=hx.1 j hj hf
    have:0≤(- p.fD y j)*x j:=Rat.mul_nonneg (by grind) h5
    grind
  rwa [Jp]at this
 have:=h.pos
 grind
theorem below{c x y:Nat→Rat}(hv:p.Valid)(hx:p.jB 1 x)(hy:p.Signed y)(hc:∀j,j<p.n→0≤c j-p.fD y j∧(p.free j=true→c j-p.fD y j≤0)):p.ou y≤cj p.n c x:=by
 have h1:=Uy hv hx hy
 have h2:cj p.n (p.fD y) x≤cj p.n c x:=Jr fun j hj=>by
  have h3:=hc j hj
  cases hf:p.free j with
  | true=>have h4:=h3.2 hf;have:p.fD y j=c j:=by grind
          rw[this];exact Rat.le_refl
  | false=>
   have h5:=hx.1 j hj hf
   have:0≤(c j-p.fD y j)*x j:=Rat.mul_nonneg h3.1 h5
   grind
 grind
theorem vL.NP(hv:p.Valid){c x y:Nat→Rat}(h:p.vL c x y):p.qa c (cj p.n c x):=
 ⟨⟨x,h.eF,rfl⟩,fun x' r7=>by rw[←h.eq];exact below hv r7 h.signed h.gM⟩
theorem adL{r:Int}{x y:Rat}(hx:m7 r x)(hy:m7 r y):m7 r (x+y):=
 ⟨fun e=>by have:=hx.1 e;have:=hy.1 e;grind,fun e=>by have:=hx.2.1 e;have:=hy.2.1 e;grind,fun e=>by have:=hx.2.2 e;have:=hy.2.2 e;grind⟩
theorem adM{r:Int}{x k:Rat}(hx:m7 r x)(hk:0≤k):m7 r (k*x):=
 ⟨fun e=>by have:=hx.1 e;have:0≤k*(-x):=Rat.mul_nonneg hk (by grind)
            grind,fun e=>by have:=hx.2.1 e;rw[this];grind,fun e=>Rat.mul_nonneg hk (hx.2.2 e)⟩
theorem jB.move{t:Rat}{x r:Nat→Rat}(hx:p.jB t x)(hr:p.jB 0 r){k:Rat}(hk:0≤k):p.jB t (fun j=>x j+k*r j):=by
 refine⟨fun j hj hf=> ?_,fun i hi=> ?_⟩
 ·have h1:=hx.1 j hj hf
  have h2:=Rat.mul_nonneg hk (hr.1 j hj hf)
  grind
 ·have h1:=adL (hx.2 i hi) (adM (hr.2 i hi) hk)
  rw[Uw,Ux]
  have e:cj p.n (p.a i) x-p.b i*t+k*(cj p.n (p.a i) r-p.b i*0)=cj p.n (p.a i) x+k*cj p.n (p.a i) r-p.b i*t:=by grind
  rwa [e]at h1
theorem xW.Uz{c x r:Nat→Rat}(h:p.xW c x r):p.uc c:=by
 refine⟨⟨x,h.eF⟩,fun v=> ?_⟩
 have hn:=h.neg
 by_cases hv:cj p.n c x<v
 ·exact⟨x,h.eF,hv⟩
 ·have hd:0 < - cj p.n c r:=by grind
  have hq:0≤(cj p.n c x-v)/(- cj p.n c r):=ao.NG (by grind) hd
  refine⟨_,h.eF.move h.kV (k:=(cj p.n c x-v)/(- cj p.n c r)+1) (by grind),?_⟩
  rw[Uw,Ux]
  have e:(cj p.n c x-v)/(- cj p.n c r)*(- cj p.n c r)=cj p.n c x-v:=by grind
  grind
theorem NQ{c:Nat→Rat}{v:Rat}(h:p.qa c v)(k:p.p9):False:=by
 obtain⟨⟨x,hx,_⟩,_⟩:=h
 exact k x hx
theorem UA{c:Nat→Rat}(h:p.uc c)(k:p.p9):False:=by
 obtain⟨⟨x,hx⟩,_⟩:=h
 exact k x hx
theorem NR{c:Nat→Rat}{v:Rat}(h:p.qa c v)(k:p.uc c):False:=by
 obtain⟨x,hx,bU⟩:=k.2 v
 have:=h.2 x hx
 grind
theorem UB{c:Nat→Rat}{v w:Rat}(h:p.qa c v)(k:p.qa c w):v=w:=by
 obtain⟨⟨x,hx,rfl⟩,h2⟩:=h
 obtain⟨⟨y,hy,rfl⟩,k2⟩:=k
 have h3:=h2 y hy
 have h4:=k2 x hx
 grind
end LP
def gY(f:Nat→Rat):Option Nat→Rat
 | some k=>f k
 | none=>0
structure dE(p:LP)(A:Nat→Nat→Rat)(w u:Nat)(plus:Nat→Nat)(minus slack:Nat→Option Nat)(unit:Nat→Nat)(sg:Nat→Rat):Prop where
 valid:p.Valid
 uw:u≤w
 UC:∀i,i<p.m→sg i=1∨sg i = -1
 rhs:∀i,i<p.m→A i w=p.b i*sg i∧0≤A i w
 pl:∀j,j<p.n→plus j<u∧∀i,i<p.m→A i (plus j)=p.a i j*sg i
 mi:∀j,j<p.n→(p.free j=false→minus j=none)∧∀k,minus j=some k→k<u∧∀i,i<p.m→A i k = - (p.a i j*sg i)
 NS:∀j,j<p.n→p.free j=true→∃k,minus j=some k
 sl:∀i,i<p.m→(p.rel i=2→slack i=none)∧(p.rel i≠2→∃k,slack i=some k)∧∀k,slack i=some k→k<u∧∀q,q<p.m→A q k=if q=i then(if p.rel i=1 then sg i else-sg i)else 0
 un:∀i,i<p.m→unit i<w∧∀q,q<p.m→A q (unit i)=if q=i then 1 else 0
 sum:∀f,aX u f=aX p.n (fun j=>f (plus j)+gY f (minus j))+aX p.m (fun i=>gY f (slack i))
namespace dE
variable {p:LP} {A:Nat→Nat→Rat} {w u:Nat} {plus:Nat→Nat} {minus slack:Nat→Option Nat} {unit:Nat→Nat} {sg:Nat→Rat}
theorem UD{u w:Nat}(h:u≤w)(f:Nat→Rat)(h0:∀j,u≤j→j<w→f j=0):aX w f=aX u f:=by
 induction w with
 | zero=>obtain rfl:u=0:=by omega
         rfl
 | succ w ih=>
  by_cases e:u=w+1
  ·rw[e]
  ·rw[fG,ih (by omega) (fun j h1 h2=>h0 j h1 (by omega)),h0 w (by omega) (by omega)];grind
def vec(plus:Nat→Nat)(minus:Nat→Option Nat)(z:Nat→Rat)(j:Nat):Rat:=z (plus j)-gY z (minus j)
theorem meets(L:dE p A w u plus minus slack unit sg){z:Nat→Rat}{t:Rat}(hs:∀i,i<p.m→aX (w+1) (fun j=>A i j*z j)=0)(hw:z w = - t)
  (hn:∀j,j<u→0≤z j) (ha:∀j,u≤j→j<w→z j=0):p.jB t (vec plus minus z):=by
 refine⟨fun j hj hf=> ?_,fun i hi=> ?_⟩
 ·unfold vec
  rw[(L.mi j hj).1 hf]
  have:=hn _ (L.pl j hj).1
  simp only[gY];grind
 ·have h1:=hs i hi
  rw[fG,hw,UD L.uw _ (fun j h1 h2=>by rw[ha j h1 h2];grind),L.sum]at h1
  have h2:aX p.n (fun j=>A i (plus j)*z (plus j)+gY (fun k=>A i k*z k) (minus j))=cj p.n (p.a i) (vec plus minus z)*sg i:=by
   unfold cj
   rw[←ua]
   refine eO fun j hj=> ?_
   rw[(L.pl j hj).2 i hi]
   unfold vec
   cases hm:minus j with
   | none=>simp only[gY];grind
   | some k=>
    have:=((L.mi j hj).2 k hm).2 i hi
    simp only[gY,this];grind
  rw[h2]at h1
  have h3:aX p.m (fun q=>gY (fun k=>A i k*z k) (slack q))=gY (fun k=>A i k*z k) (slack i):=by
   refine sP hi _ fun q hq aY=> ?_
   cases hm:slack q with
   | none=>rfl
   | some k=>
    have:=((L.sl q hq).2.2 k hm).2 i hi
    rw[if_neg (fun e=>aY e.symm)]at this
    simp only[gY,this];grind
  rw[h3,(L.rhs i hi).1]at h1
  have jo:=L.UC i hi
  have iB:=L.sl i hi
  have key:∀s:Rat,cj p.n (p.a i) (vec plus minus z)*sg i+s*sg i+p.b i*sg i * -t=0→cj p.n (p.a i) (vec plus minus z)-p.b i*t = - s:=by
   intro s hs
   rcases jo with e | e <;> rw[e]at hs <;> grind
  rcases L.valid i hi with e | e | e
  ·obtain⟨k,hk⟩:=iB.2.1 (by omega)
   have h4:=iB.2.2 k hk
   have h5:=h4.2 i hi
   rw[if_pos rfl,if_pos e]at h5
   have h6:=hn k h4.1
   rw[hk]at h1
   simp only[gY,h5]at h1
   have h7:=key (z k) (by grind)
   exact⟨fun _=>by grind,fun e'=>by omega,fun e'=>by omega⟩
  ·rw[iB.1 e]at h1
   simp only[gY]at h1
   have h7:=key 0 (by grind)
   exact⟨fun e'=>by omega,fun _=>by grind,fun e'=>by omega⟩
  ·obtain⟨k,hk⟩:=iB.2.1 (by omega)
   have h4:=iB.2.2 k hk
   have h5:=h4.2 i hi
   rw[if_pos rfl,if_neg (by omega)]at h5
   have h6:=hn k h4.1
   rw[hk]at h1
   simp only[gY,h5]at h1
   have h7:=key (- z k) (by grind)
   exact⟨fun e'=>by omega,fun e'=>by omega,fun _=>by grind⟩
def sR(A:Nat→Nat→Rat)(m w:Nat)(c0 c:Nat→Rat):Prop:=∃l:Nat→Rat,∀j,j≤w→c j=c0 j-aX m (fun k=>l k*A k j)
section
variable (L:dE p A w u plus minus slack unit sg) {c0 c:Nat→Rat} (ho:sR A p.m w c0 c)
include L ho
theorem NT:(∀j,j<p.n→p.fD (fun i=>sg i*(c0 (unit i)-c (unit i))) j=c0 (plus j)-c (plus j)∧∀k,minus j=some k→p.fD (fun i=>sg i*(c0 (unit i)-c (unit i))) j=c k-c0 k)
  ∧p.ou (fun i=>sg i*(c0 (unit i)-c (unit i)))=c0 w-c w∧(∀i,i<p.m→∀k,slack i=some k→sg i*(c0 (unit i)-c (unit i))=if p.rel i=1 then c0 k-c k else c k-c0 k):=by
 obtain⟨l,hl⟩:=ho
 have hu:∀i,i<p.m→c0 (unit i)-c (unit i)=l i:=fun i hi=>by
  have h1:=L.un i hi
  rw[hl _ (by omega),sP hi (fun k=>l k*A k (unit i)) (fun q hq aY=>by rw[h1.2 q hq,if_neg aY];grind),h1.2 i hi,if_pos rfl];grind
 refine⟨fun j hj=>⟨?_,fun k hk=> ?_⟩,?_,fun i hi k hk=> ?_⟩
 ·have h1:=L.pl j hj
  have bU:=L.uw
  rw[hl _ (by omega)]
  unfold LP.fD
  rw[eO (g:=fun k=>l k*A k (plus j)) (fun i hi=>by show sg i*(c0 (unit i)-c (unit i))*_=_;rw[hu i hi,h1.2 i hi];grind)]
  grind
 ·have h1:=(L.mi j hj).2 k hk
  have bU:=L.uw
  rw[hl _ (by omega)]
  unfold LP.fD
  rw[eO (g:=fun q=> - (l q*A q k)) (fun i hi=>by show sg i*(c0 (unit i)-c (unit i))*_=_;rw[hu i hi,h1.2 i hi];grind),Jo]
  grind
 ·rw[hl _ (Nat.le_refl _)]
  unfold LP.ou
  rw[eO (g:=fun k=>l k*A k w) (fun i hi=>by show sg i*(c0 (unit i)-c (unit i))*_=_;rw[hu i hi,(L.rhs i hi).1];grind)]
  grind
 ·have h1:=(L.sl i hi).2.2 k hk
  have bU:=L.uw
  rw[hu i hi,hl k (by omega),sP hi (fun q=>l q*A q k) (fun q hq aY=>by rw[h1.2 q hq,if_neg aY];grind),h1.2 i hi,if_pos rfl]
  split <;> grind
theorem UE(h0:∀i,i<p.m→∀k,slack i=some k→c0 k=0)(hn:∀j,j<u→0≤c j):p.Signed (fun i=>sg i*(c0 (unit i)-c (unit i))):=fun i hi=>by
 have h1:=(NT L ho).2.2 i hi
 refine⟨fun e=> ?_,fun e=> ?_⟩
 ·obtain⟨k,hk⟩:=(L.sl i hi).2.1 (by omega)
  have h2:=h1 k hk
  have h3:=hn k ((L.sl i hi).2.2 k hk).1
  rw[if_neg (by omega),h0 i hi k hk]at h2
  simp only[h2];grind
 ·obtain⟨k,hk⟩:=(L.sl i hi).2.1 (by omega)
  have h2:=h1 k hk
  have h3:=hn k ((L.sl i hi).2.2 k hk).1
  rw[if_pos e,h0 i hi k hk]at h2
  simp only[h2];grind
theorem adN(h0:∀j,j<u→c0 j=0)(hw:c0 w=0)(hn:∀j,j<u→0≤c j)(fI:c w<0):p.xV (fun i=>sg i*(c0 (unit i)-c (unit i))):=by
 have hd:=NT L ho
 refine⟨UE L ho (fun i hi k hk=>h0 k ((L.sl i hi).2.2 k hk).1) hn,fun j hj=>⟨?_,fun hf=> ?_⟩,?_⟩
 ·have h1:=L.pl j hj
  rw[(hd.1 j hj).1,h0 _ h1.1]
  have:=hn _ h1.1
  grind
 ·obtain⟨k,hk⟩:=L.NS j hj hf
  have h1:=(L.mi j hj).2 k hk
  rw[(hd.1 j hj).2 k hk,h0 k h1.1]
  have:=hn _ h1.1
  grind
 ·rw[hd.2.1,hw];grind
end
end dE
end Lp
namespace Lp
namespace ao
structure Rows(A:Nat→Nat→Rat)(m' w:Nat)(T:ao):Prop where
 m:T.m=m'
 n:T.n=w
 mul:∃R:Nat→Nat→Rat,∀i,i<m'→∀j,j≤w→T.A i j=aX m' (fun k=>R i k*A k j)
 m6:∀x,T.pg x↔∀i,i<m'→aX (w+1) (fun j=>A i j*x j)=0
section
variable {A:Nat→Nat→Rat} {m w:Nat} {T:ao}
theorem adO(hA:∀i j,T.A i j=A i j)(hm:T.m=m)(hn:T.n=w):Rows A m w T:=by
 refine⟨hm,hn,⟨fun i k=>if k=i then 1 else 0,fun i hi j _=> ?_⟩,fun x=> ?_⟩
 ·rw[sP hi (fun k=>(if k=i then 1 else 0)*A k j) (fun q _ aY=>by rw[if_neg aY];grind),if_pos rfl,hA];grind
 ·unfold pg
  rw[hm,hn]
  constructor
  ·intro h i hi
   rw[←h i hi]
   exact eO fun j _=>by rw[hA]
  ·intro h i hi
   rw[←h i hi]
   exact eO fun j _=>by rw[hA]
theorem Rows.pivot(h:Rows A m w T){r s:Nat}(hr:r<m)(hp:T.A r s≠0):Rows A m w (T.pivot r s):=by
 obtain⟨R,hR⟩:=h.mul
 refine⟨h.m,h.n,⟨fun i k=>if i=r then R r k/T.A r s else R i k-T.A i s*(R r k/T.A r s),fun i hi j hj=> ?_⟩,fun x=> ?_⟩
 ·have e1:aX m (fun k=>R r k/T.A r s*A k j)=T.A r j/T.A r s:=by
   rw[hR r hr j hj,Rat.div_def,←ua]
   exact eO fun k _=>by grind
  by_cases e:i=r
  ·simp only[ao.pivot,if_pos e]
   exact e1.symm
  ·simp only[ao.pivot,if_neg e]
   rw[←e1,hR i hi j hj,←vI,←EU]
   exact eO fun k _=>by grind
 ·rw[NF (by rw[h.m];exact hr) hp,h.m6]
theorem Rows.off(h:Rows A m w T)(c0 f:Nat→Rat){c:Nat→Rat}(hc:∀j,j≤w→c j=c0 j-aX m (fun i=>f i*T.A i j)):dE.sR A m w c0 c:=by
 obtain⟨R,hR⟩:=h.mul
 refine⟨fun k=>aX m (fun i=>f i*R i k),fun j hj=> ?_⟩
 rw[hc j hj]
 congr 1
 rw[eO (g:=fun i=>aX m (fun k=>f i*R i k*A k j)) (fun i hi=>by rw[hR i hi j hj,←vI];exact eO fun k _=>by grind),Jq]
 exact eO fun k _=>ua _ _ _
theorem Rows.NU(h:Rows A m w T){c0:Nat→Rat}(ho:dE.sR A m w c0 T.c){r s:Nat}(hr:r<m):dE.sR A m w c0 (T.pivot r s).c:=by
 obtain⟨R,hR⟩:=h.mul
 obtain⟨l,hl⟩:=ho
 refine⟨fun k=>l k+T.c s*(R r k/T.A r s),fun j hj=> ?_⟩
 show T.c j-T.c s*(T.A r j/T.A r s)=_
 have e1:aX m (fun k=>R r k/T.A r s*A k j)=T.A r j/T.A r s:=by
  rw[hR r hr j hj,Rat.div_def,←ua]
  exact eO fun k _=>by grind
 have e2:aX m (fun k=>(l k+T.c s*(R r k/T.A r s))*A k j)=aX m (fun k=>l k*A k j)+T.c s*aX m (fun k=>R r k/T.A r s*A k j):=by
  rw[←vI,←ND]
  exact eO fun k _=>by grind
 rw[e2,e1,hl j hj]
 grind
theorem Rows.cost(h:Rows A m w T){c0:Nat→Rat}(ho:dE.sR A m w c0 T.c){x:Nat→Rat}(hx:T.pg x):T.cost x=aX (w+1) (fun j=>c0 j*x j):=by
 obtain⟨l,hl⟩:=ho
 unfold ao.cost
 rw[h.n]
 have e1:aX (w+1) (fun j=>aX m (fun k=>l k*A k j)*x j)=0:=by
  rw[eO (g:=fun j=>aX m (fun k=>l k*(A k j*x j))) (fun j _=>by rw[←ua];exact eO fun k _=>by grind),Jq]
  refine mE fun k hk=> ?_
  rw[vI,(h.m6 x).1 hx k hk];grind
 rw[eO (g:=fun j=>c0 j*x j-aX m (fun k=>l k*A k j)*x j) (fun j hj=>by rw[hl j (by omega)];grind),EU,e1]
 grind
end
def pt(T:ao)(j:Nat):Rat:=if j=T.n then -1 else aX T.m (fun i=>if T.B i=j then T.A i T.n else 0)
section
variable {T:ao}
theorem UF(h:T.WF)(j:Nat):T.pt j = - T.dir T.n j:=by
 unfold pt dir
 by_cases e:j=T.n
 ·rw[if_pos e,if_pos e,mE]
  ·grind
  ·intro i hi
   have:=h.lt i hi
   rw[if_neg (by omega)]
 ·rw[if_neg e,if_neg e];grind
theorem NV(h:T.WF):T.pg T.pt:=fun i hi=>by
 have:=xQ h T.n (Nat.le_refl _) i hi
 rw[eO (g:=fun j=> - (T.A i j*T.dir T.n j)) (fun j _=>by rw[UF h];grind),Jo,this];grind
theorem UG(h:T.WF):T.cost T.pt = - T.c T.n:=by
 have:=Cy h T.n (Nat.le_refl _)
 unfold cost at this⊢
 rw[eO (g:=fun j=> - (T.c j*T.dir T.n j)) (fun j _=>by rw[UF h];grind),Jo,this]
theorem UH(h:T.WF){i:Nat}(hi:i<T.m):T.pt (T.B i)=T.A i T.n:=by
 have:=h.lt i hi
 unfold pt
 rw[if_neg (by omega),sP hi,if_pos rfl]
 intro k hk aY
 rw[if_neg (fun e=>aY (h.inj hk hi e))]
theorem UI(hf:T.jO){j:Nat}(hj:j<T.n):0≤T.pt j:=by
 unfold pt
 rw[if_neg (by omega)]
 refine EW fun i hi=> ?_
 split
 ·exact hf i hi
 ·exact Rat.le_refl
theorem UJ{j:Nat}(hj:j<T.n)(h:∀i,i<T.m→T.B i=j→T.A i T.n=0):T.pt j=0:=by
 unfold pt
 rw[if_neg (by omega)]
 refine mE fun i hi=> ?_
 split
 ·rename_i e;exact h i hi e
 ·rfl
theorem UK{s:Nat}(h:∀i,i<T.m→T.A i s≤0)(j:Nat):0≤T.dir s j:=by
 unfold dir
 have h1:0≤aX T.m (fun i=> - (if T.B i=j then T.A i s else 0)):=EW fun i hi=>by
  split
  ·have:=h i hi;grind
  ·grind
 rw[Jo]at h1
 split <;> grind
theorem adP(h:T.WF){s:Nat}(hs:s<T.n):T.dir s T.n=0:=by
 unfold dir
 rw[if_neg (by omega),mE]
 ·grind
 ·intro i hi
  have:=h.lt i hi
  rw[if_neg (by omega)]
theorem adQ{s j:Nat}(hj:j≠s)(h:∀i,i<T.m→T.B i=j→T.A i s=0):T.dir s j=0:=by
 unfold dir
 rw[if_neg hj,mE]
 ·grind
 ·intro i hi
  split
  ·rename_i e;exact h i hi e
  ·rfl
end
def jq(u w j:Nat):Rat:=if u≤j∧j<w then 1 else 0
theorem UL(u w j:Nat):0≤jq u w j:=by
 unfold jq;split <;> grind
theorem NW{u w j:Nat}(h:j<u):jq u w j=0:=by
 unfold jq;rw[if_neg (by omega)]
theorem UM(u w:Nat):jq u w w=0:=by
 unfold jq;rw[if_neg (by omega)]
section
variable {A:Nat→Nat→Rat} {m w u:Nat} {T:ao}
theorem adR(hW:T.WF)(h:Rows A m w T)(ho:dE.sR A m w (jq u w) T.c){s:Nat}(hs:s<w)(fI:T.c s<0)(hA:∀i,i<T.m→T.A i s≤0):False:=by
 have h1:=Cy hW s (by rw[h.n];omega)
 rw[h.cost ho (xQ hW s (by rw[h.n];omega))]at h1
 have h2:0≤aX (w+1) (fun j=>jq u w j*T.dir s j):=EW fun j _=>Rat.mul_nonneg (UL u w j) (UK hA j)
 grind
theorem adS{n k:Nat}(f:Nat→Rat)(h:∀i,i<n→0≤f i)(hk:k<n):f k≤aX n f:=by
 induction n with
 | zero=>omega
 | succ n ih=>
  rw[fG]
  have h0:=h n (by omega)
  by_cases e:k=n
  ·subst e
   have:0≤aX k f:=EW fun i hi=>h i (by omega)
   grind
  ·have:=ih (fun i hi=>h i (by omega)) (by omega)
   grind
theorem UN(hW:T.WF)(hF:T.jO)(h:Rows A m w T)(ho:dE.sR A m w (jq u w) T.c)(hv:0≤T.c w):T.c w=0∧∀i,i<T.m→u≤T.B i→T.A i T.n=0:=by
 have h1:=UG hW
 rw[h.cost ho (NV hW),h.n]at h1
 have h0:∀j,j<w+1→0≤jq u w j*T.pt j:=fun j hj=>by
  by_cases e:j=w
  ·subst e;rw[UM];grind
  ·exact Rat.mul_nonneg (UL u w j) (UI hF (by rw[h.n];omega))
 have h2:=EW h0
 refine⟨by grind,fun i hi hu=> ?_⟩
 have bU:=hW.lt i hi
 have h3:=adS _ h0 (k:=T.B i) (by rw[h.n]at bU;omega)
 have UO:=bU
 rw[h.n]at UO
 rw[UH hW hi]at h3
 have e:jq u w (T.B i)=1:=by unfold jq;rw[if_pos ⟨hu,UO⟩]
 rw[e]at h3
 have:=hF i hi
 grind
end
structure Clean(u k:Nat)(T:ao):Prop where
 zero:∀i,i<T.m→u≤T.B i→T.A i T.n=0
 row:∀i,i<k→i<T.m→u≤T.B i→∀j,j<u→T.A i j=0
section
variable {u k:Nat} {T:ao}
theorem Clean.start(h:∀i,i<T.m→u≤T.B i→T.A i T.n=0):Clean u 0 T:=⟨h,fun i hi=>by omega⟩
theorem Clean.skip(h:Clean u k T)(hk:T.B k<u∨∀j,j<u→T.A k j=0):Clean u (k+1) T:=by
 refine⟨h.zero,fun i hi hm hu=> ?_⟩
 by_cases e:i=k
 ·subst e
  rcases hk with hk | hk
  ·omega
  ·exact hk
 ·exact h.row i (by omega) hm hu
theorem Clean.adT(h:Clean u k T)(hk:k<T.m)(hu:u≤T.B k){s:Nat}(hs:s<u):Clean u (k+1) (T.pivot k s):=by
 have hz:=h.zero k hk hu
 refine⟨fun i hi hb=> ?_,fun i hi hm hb j hj=> ?_⟩
 ·have fH:i<T.m:=hi
  simp only[ao.pivot]at hb⊢
  by_cases e:i=k
  ·rw[if_pos e]at hb;omega
  ·rw[if_neg e]at hb⊢
   rw[h.zero i fH hb,hz,Rat.div_def];grind
 ·have bB:i<T.m:=hm
  simp only[ao.pivot]at hb⊢
  by_cases e:i=k
  ·rw[if_pos e]at hb;omega
  ·rw[if_neg e]at hb⊢
   rw[h.row i (by omega) bB hb j hj,h.row i (by omega) bB hb s hs];grind
theorem Clean.eF(h:Clean u k T)(hF:T.jO)(hk:k<T.m)(hu:u≤T.B k)(s:Nat):(T.pivot k s).jO:=fun i hi=>by
 have fH:i<T.m:=hi
 have hz:=h.zero k hk hu
 have h1:=hF i fH
 show 0≤(if i=k then T.A k T.n/T.A k s else T.A i T.n-T.A i s*(T.A k T.n/T.A k s))
 rw[hz]
 split
 ·rw[Rat.div_def];grind
 ·rw[Rat.div_def];grind
theorem Clean.E0(h:Clean u T.m T){r s:Nat}(hb:T.ot u r s):Clean u (T.pivot r s).m (T.pivot r s):=by
 have hr:T.B r<u:=by
  false_or_by_contra
  have:=h.row r hb.rm hb.rm (by omega) s hb.su
  have:=hb.pos
  grind
 have hs:=hb.su
 refine⟨fun i hi hu=> ?_,fun i _ hi hu j hj=> ?_⟩
 ·have fH:i<T.m:=hi
  simp only[ao.pivot]at hu⊢
  by_cases e:i=r
  ·rw[if_pos e]at hu;omega
  ·rw[if_neg e]at hu⊢
   rw[h.zero i fH hu,h.row i fH fH hu s hs];grind
 ·have fH:i<T.m:=hi
  simp only[ao.pivot]at hu⊢
  by_cases e:i=r
  ·rw[if_pos e]at hu;omega
  ·rw[if_neg e]at hu⊢
   rw[h.row i fH fH hu j hj,h.row i fH fH hu s hs];grind
end
structure E1(p:LP)(w:Nat)(plus:Nat→Nat)(minus slack:Nat→Option Nat)(c c0:Nat→Rat):Prop where
 pl:∀j,j<p.n→c0 (plus j)=c j
 mi:∀j,j<p.n→∀k,minus j=some k→c0 k = - c j
 sl:∀i,i<p.m→∀k,slack i=some k→c0 k=0
 last:c0 w=0
section
variable {p:LP} {A:Nat→Nat→Rat} {w u:Nat} {plus:Nat→Nat} {minus slack:Nat→Option Nat} {unit:Nat→Nat} {sg c c0:Nat→Rat} {T:ao}
theorem UP(L:dE p A w u plus minus slack unit sg)(hc:E1 p w plus minus slack c c0){z:Nat→Rat}(ha:∀j,u≤j→j<w→z j=0):
  aX (w+1) (fun j=>c0 j*z j)=cj p.n c (dE.vec plus minus z):=by
 rw[fG,hc.last,dE.UD L.uw _ (fun j h1 h2=>by rw[ha j h1 h2];grind),L.sum]
 have h1:aX p.m (fun i=>gY (fun j=>c0 j*z j) (slack i))=0:=mE fun i hi=>by
  cases hs:slack i with
  | none=>rfl
  | some k=>simp only[gY];rw[hc.sl i hi k hs];grind
 rw[h1]
 unfold cj dE.vec
 have h2:aX p.n (fun j=>c0 (plus j)*z (plus j)+gY (fun j=>c0 j*z j) (minus j))=aX p.n (fun j=>c j*(z (plus j)-gY z (minus j))):=eO fun j hj=>by
  rw[hc.pl j hj]
  cases hm:minus j with
  | none=>simp only[gY];grind
  | some k=>simp only[gY];rw[hc.mi j hj k hm];grind
 rw[h2];grind
theorem UQ(hC:Clean u T.m T){j:Nat}(h1:u≤j)(h2:j<T.n):T.pt j=0:=UJ h2 fun i hi e=>hC.zero i hi (by omega)
theorem UR(L:dE p A w u plus minus slack unit sg)(hW:T.WF)(hF:T.jO)(h:Rows A p.m w T)(hC:Clean u T.m T):p.jB 1 (dE.vec plus minus T.pt):=by
 have hu:=L.uw
 refine L.meets ((h.m6 _).1 (NV hW)) ?_ (fun j hj=>UI hF (by rw[h.n];omega)) (fun j h1 h2=>UQ hC h1 (by rw[h.n];omega))
 unfold pt
 rw[if_pos h.n.symm]
theorem US(L:dE p A w u plus minus slack unit sg)(hW:T.WF)(h:Rows A p.m w T)(hC:Clean u T.m T)(hc:E1 p w plus minus slack c c0)(ho:dE.sR A p.m w c0 T.c):
  cj p.n c (dE.vec plus minus T.pt) = - T.c w:=by
 rw[←UP L hc (fun j h1 h2=>UQ hC h1 (by rw[h.n];omega)),←h.cost ho (NV hW),UG hW,h.n]
theorem adU(L:dE p A w u plus minus slack unit sg)(hW:T.WF)(hF:T.jO)(h:Rows A p.m w T)(hC:Clean u T.m T)(hc:E1 p w plus minus slack c c0)(ho:dE.sR A p.m w c0 T.c)(hn:∀j,j<u→0≤T.c j):
  p.vL c (dE.vec plus minus T.pt) (fun i=>sg i*(c0 (unit i)-T.c (unit i))):=by
 have hd:=dE.NT L ho
 refine⟨UR L hW hF h hC,dE.UE L ho (fun i hi k hk=>hc.sl i hi k hk) hn,fun j hj=>⟨?_,fun hf=> ?_⟩,?_⟩
 ·have h1:=L.pl j hj
  rw[(hd.1 j hj).1,hc.pl j hj]
  have:=hn _ h1.1
  grind
 ·obtain⟨k,hk⟩:=L.NS j hj hf
  have h1:=(L.mi j hj).2 k hk
  rw[(hd.1 j hj).2 k hk,hc.mi j hj k hk]
  have:=hn _ h1.1
  grind
 ·rw[hd.2.1,hc.last,US L hW h hC hc ho];grind
theorem adV(L:dE p A w u plus minus slack unit sg)(hW:T.WF)(hF:T.jO)(h:Rows A p.m w T)(hC:Clean u T.m T)(hc:E1 p w plus minus slack c c0)(ho:dE.sR A p.m w c0 T.c){s:Nat}(hs:s<u)(fI:T.c s<0)
  (hA:∀i,i<T.m→T.A i s≤0):p.xW c (dE.vec plus minus T.pt) (dE.vec plus minus (T.dir s)):=by
 have hu:=L.uw
 have lX:s<T.n:=by rw[h.n];omega
 have ha:∀j,u≤j→j<w→T.dir s j=0:=fun j h1 h2=>adQ (by omega) fun i hi e=>hC.row i hi hi (by omega) s hs
 refine⟨UR L hW hF h hC,L.meets ((h.m6 _).1 (xQ hW s (by omega))) ?_ (fun j _=>UK hA j) ha,?_⟩
 ·have:=adP hW lX
  rw[h.n]at this
  rw[this];grind
 ·rw[←UP L hc ha,←h.cost ho (xQ hW s (by omega)),Cy hW s (by omega)]
  exact fI
end
end ao
end Lp
namespace Lp
structure Prg where
 free:List Bool
 rows:List (List Rat×Int×Rat)
def fn(l:List Rat)(j:Nat):Rat:=l.getD j 0
theorem jC{l:List Rat}{j:Nat}{q:Rat}(h:l[j]? = some q):fn l j=q:=by simp[fn,List.getD,h]
theorem UT{l:List Rat}{j:Nat}(h:l.length≤j):fn l j=0:=by simp[fn,List.getD,List.getElem?_eq_none h]
def Prg.row(p:Prg)(i:Nat):List Rat×Int×Rat:=p.rows.getD i ([],0,0)
theorem Prg.m8{p:Prg}{i:Nat}{r:List Rat×Int×Rat}(h:p.rows[i]? = some r):p.row i=r:=by simp[Prg.row,List.getD,h]
def Prg.lp(p:Prg):LP:=⟨p.free.length,p.rows.length,fun j=>p.free.getD j false,fun i j=>fn (p.row i).1 j,fun i=>(p.row i).2.1,fun i=>(p.row i).2.2⟩
theorem Prg.ue{p:Prg}{j:Nat}{b:Bool}(h:p.free[j]? = some b):p.lp.free j=b:=by simp[Prg.lp,List.getD,h]
def NX(n:Nat)(r:List Rat×Int×Rat):Prop:=r.1.length=n∧(r.2.1=1∨r.2.1=2∨r.2.1=3)
structure Prg.Ok(p:Prg):Prop where
 gM:p.free.length≤400
 rows:p.rows.length≤800
 row:∀(i:Nat)(r:List Rat×Int×Rat),p.rows[i]? = some r→NX p.free.length r
theorem Prg.Ok.valid{p:Prg}(h:p.Ok):p.lp.Valid:=fun i hi=>by
 have fH:i<p.rows.length:=hi
 have:=(h.row i _ (List.getElem?_eq_getElem fH)).2
 show (p.row i).2.1=1∨(p.row i).2.1=2∨(p.row i).2.1=3
 rwa [Prg.m8 (List.getElem?_eq_getElem fH)]
structure zP(p:Prg)(x:List Rat):Prop where
 ok:p.Ok
 len:x.length=p.free.length
 meets:p.lp.jB 1 (fn x)
structure E2(p:Prg)(c x y:List Rat):Prop where
 eF:zP p x
 E3:c.length=p.free.length
 NY:y.length=p.rows.length
 cert:p.lp.vL (fn c) (fn x) (fn y)
structure Ju(p:Prg)(y:List Rat):Prop where
 ok:p.Ok
 NY:y.length=p.rows.length
 cert:p.lp.xV (fn y)
structure Jv(p:Prg)(c x r:List Rat):Prop where
 eF:zP p x
 E3:c.length=p.free.length
 gN:r.length=p.free.length
 cert:p.lp.xW (fn c) (fn x) (fn r)
structure q3 where
 status:Int
 value:Rat
 x:List Rat
 m9:List Rat
 kV:List Rat
def iC(p:Prg)(c:List Rat)(s:q3):Prop:=
 (s.status=1∧s.kV = []∧E2 p c s.x s.m9∧s.value=cj p.free.length (fn c) (fn s.x))∨
 (s.status=2∧s.value=0∧s.x = []∧s.kV = []∧c.length=p.free.length∧Ju p s.m9)∨
 (s.status=3∧s.value=0∧s.m9 = []∧Jv p c s.x s.kV)
theorem iC.Jw{p:Prg}{c:List Rat}{s:q3}(h:iC p c s):(s.status=1∧p.lp.qa (fn c) s.value)∨(s.status=2∧p.lp.p9∧s.value=0)∨(s.status=3∧p.lp.uc (fn c)∧s.value=0):=by
 rcases h with ⟨h1,_,h2,h3⟩ | ⟨h1,h2,_,_,_,h3⟩ | ⟨h1,h2,_,h3⟩
 ·exact .inl ⟨h1,by rw[h3];exact h2.cert.NP h2.eF.ok.valid⟩
 ·exact .inr (.inl ⟨h1,h3.cert.isInf h3.ok.valid,h2⟩)
 ·exact .inr (.inr ⟨h1,h3.cert.Uz,h2⟩)
theorem adW{p q:LP}{c d:Nat→Rat}{s t:Int}{v w:Rat}(zQ:p.p9↔q.p9)(xX:∀u,p.qa c u→q.qa d u)(UU:p.uc c→q.uc d)
  (h:(s=1∧p.qa c v)∨(s=2∧p.p9∧v=0)∨(s=3∧p.uc c∧v=0)) (k:(t=1∧q.qa d w)∨(t=2∧q.p9∧w=0)∨(t=3∧q.uc d∧w=0)):s=t∧v=w:=by
 rcases h with ⟨h1,h2⟩ | ⟨h1,h2,h3⟩ | ⟨h1,h2,h3⟩
 ·rcases k with ⟨k1,k2⟩ | ⟨k1,k2,k3⟩ | ⟨k1,k2,k3⟩
  ·exact⟨h1.trans k1.symm,LP.UB (xX _ h2) k2⟩
  ·exact(LP.NQ h2 (zQ.2 k2)).elim
  ·exact(LP.NR (xX _ h2) k2).elim
 ·rcases k with ⟨k1,k2⟩ | ⟨k1,k2,k3⟩ | ⟨k1,k2,k3⟩
  ·exact(LP.NQ k2 (zQ.1 h2)).elim
  ·exact⟨h1.trans k1.symm,h3.trans k3.symm⟩
  ·exact(LP.UA k2 (zQ.1 h2)).elim
 ·rcases k with ⟨k1,k2⟩ | ⟨k1,k2,k3⟩ | ⟨k1,k2,k3⟩
  ·exact(LP.NR k2 (UU h2)).elim
  ·exact(LP.UA (UU h2) k2).elim
  ·exact⟨h1.trans k1.symm,h3.trans k3.symm⟩
theorem iC.ok{p:Prg}{c:List Rat}{S:q3}(h:iC p c S):p.Ok∧c.length=p.free.length:=by
 rcases h with ⟨_,_,h,_⟩ | ⟨_,_,_,_,h1,h⟩ | ⟨_,_,_,h⟩
 ·exact⟨h.eF.ok,h.E3⟩
 ·exact⟨h.ok,h1⟩
 ·exact⟨h.eF.ok,h.E3⟩
theorem iC.NZ{p:Prg}{c:List Rat}{S:q3}(h:iC p c S)(e:S.status=1):S.kV = []∧E2 p c S.x S.m9∧S.value=cj p.free.length (fn c) (fn S.x):=by
 rcases h with ⟨_,h⟩ | ⟨h1,_⟩ | ⟨h1,_⟩
 ·exact h
 ·omega
 ·omega
theorem iC.Jy{p:Prg}{c:List Rat}{S:q3}(h:iC p c S)(e:S.status=2):S.value=0∧S.x = []∧S.kV = []∧c.length=p.free.length∧Ju p S.m9:=by
 rcases h with ⟨h1,_⟩ | ⟨_,h⟩ | ⟨h1,_⟩
 ·omega
 ·exact h
 ·omega
theorem iC.N2{p:Prg}{c:List Rat}{S:q3}(h:iC p c S)(e:S.status=3):S.value=0∧S.m9 = []∧Jv p c S.x S.kV:=by
 rcases h with ⟨h1,_⟩ | ⟨h1,_⟩ | ⟨_,h⟩
 ·omega
 ·omega
 ·exact h
end Lp
