/- Walks over package simplex, simplex.go, part 2: stands, Value. -/
import Derived.Test.YtgjimcieaecdkaaGreatA10
set_option linter.unusedVariables false
namespace Go.ar
open Go.Proofs Num Lp
theorem acH{H:Heap}{vs:List Value}{q:Rat}{rel:Int}(hv:aZ H vs q)(hN:(aK q:Int)≤1099511627776)(hr:rel=1∨rel=2∨rel=3):
 Fn Tryz.prog 84 #[.int .i64 rel,.agg vs.toArray] H (fun v H'=>Heap.le H H'∧∃b,v = .bool b∧(b=true↔j4 rel q)):=by
 obtain⟨n1,d1,b1,rfl⟩:=hv.cells;refine aW (args:=[_,_]) Tryz.func84 rfl rfl Tryz.ntmps84 rfl rfl fun w0=> ?_;refine aj [0,1] rfl ?_;refine af (bY rfl rfl (ab 1 rfl (ae [0,3] ?_)));refine aq (af (ab 1 rfl (ae [3,5] ?_)));refine aD (af (ab 2 rfl (ae [3,5,6] ?_)));refine az rfl (fun hb=> ?_) (fun hb=> ?_)
 ·
  have hb:rel=1:=by simpa using hb
  refine af (ab 1 rfl (au rfl rfl (iK hv hN) ?_));rintro v1 H1 ⟨cn,rfl⟩;refine ab 2 rfl (ae [4] ?_);refine aw ⟨.inr rfl,_,.tmp rfl (.nil),?_⟩;exact⟨cn,_,rfl,by simp only[decide_eq_true_eq,Ez];unfold j4;constructor <;> intro h9 <;> grind⟩
 ·
  have hb:¬rel=1:=by simpa using hb
  refine af (ab 2 rfl (ae [3,11] ?_));refine az rfl (fun hb=> ?_) (fun hb=> ?_)
  ·
   have jD:rel=3:=by simpa using hb
   refine af (ab 1 rfl (au rfl rfl (iK hv hN) ?_));rintro v1 H1 ⟨cn,rfl⟩;refine ab 2 rfl (ae [4] ?_);refine aw ⟨.inr rfl,_,.tmp rfl (.nil),?_⟩;exact⟨cn,_,rfl,by simp only[decide_eq_true_eq,ge_iff_le,vx];unfold j4;constructor <;> intro h9 <;> grind⟩
  have jD:¬rel=3:=by simpa using hb
  refine ax (aj [3] rfl ?_);refine af (ab 1 rfl (au rfl rfl (iK hv hN) ?_));rintro v1 H1 ⟨cn,rfl⟩;refine ab 2 rfl (ae [4] ?_);refine aw ⟨.inr rfl,_,.tmp rfl (.nil),?_⟩;exact⟨cn,_,rfl,by simp only[beq_iff_eq,xT];unfold j4;constructor <;> intro h9 <;> grind⟩
theorem acI{H:Heap}{v xv:Value}{p:Prg}{x:List Rat}{t:Rat}{ts:List Value}{N M:Nat}(hp:dE N H v p)(a8:p.Ok)(hx:aH aZ 3 H xv x)(cj:x.length=p.free.length)(ht:aZ H ts t)(ht1:aK t≤1)(zI:∀q,q∈x→aK q≤M)(RY:N+2≤M)(hM:M≤1300000000):
 Fn Tryz.prog 48 #[v,xv,.agg ts.toArray] H (fun v H'=>Heap.le H H'∧∃b,v = .bool b∧(b=true↔p.lp.cO t (fn x))):=by
 obtain⟨fv,l7,rfl,eA,fa⟩:=id hp
 obtain⟨Af,cf,xf,rfl,kF,kG⟩:=eA.one
 obtain⟨Ar,cr,xr,rfl,fQ,fA⟩:=fa.row
 obtain⟨tn,td,Sg,rfl⟩:=ht.cells
 obtain⟨Ax,cx,xx,rfl,Sh,Si⟩:=hx.num
 rw[cj]at hx⊢
 have ep:=a8.gu
 have rH:=a8.rows;refine aW (args:=[_,_,_]) Tryz.func48 rfl rfl Tryz.ntmps48 rfl rfl fun w0=> ?_;refine aj [0,1,2] rfl ?_;refine af (bY rfl rfl (bY rfl rfl (ab 1 rfl (ae [1,3,5] ?_))));refine aq (af (ab 4 rfl (ae [1,3,5,13,14,15] ?_)));refine aD (gj (fun(i:Nat)=>p.free.length-i) (fun(i:Nat)=>put (put (put (put (put (put (emp) 1 (.val (.slice Ax p.free.length cx))) 3 (.box [.slice Af p.free.length cf,.slice Ar p.rows.length cr])) 5 (.box [.int .i64 tn,.int .i64 td,.pointer Sg])) 13 (.val (.slice Af p.free.length cf))) 14 (.val (.int .i64 (p.free.length:Int)))) 15 (.val (.int .i64 (i:Int)))) (fun(i:Nat) H'=>Heap.le H H'∧(∀j,j<i→p.lp.free j=false→0≤fn x j)∧i≤p.free.length) 0 (⟨.refl _,(fun j h=>by omega),Nat.zero_le _⟩) ay ?_);rintro i H1 ⟨cn,iB,hi⟩;refine af (ab 1 rfl (ae [1,3,5,13,14,15,16] ?_));refine aq (az rfl (fun hb=> ?_) (fun hb=> ?_))
 ·
  have iE:i<p.free.length:=by simpa using hb
  obtain⟨fb,j6⟩:∃fb,p.free[i]? = some fb:=⟨_,List.getElem?_eq_getElem iE⟩;obtain⟨uf,JF,JG⟩:=kG i fb j6
  cases JG
  have ib:p.lp.free i=fb:=Prg.NQ j6;obtain⟨q,gA⟩:∃q,x[i]? = some q:=⟨_,List.getElem?_eq_getElem (by omega)⟩;obtain⟨n1,d1,b1,dB,dD⟩:=Si i q gA;have tt:fn x i=q:=iu gA;have E3:=zI q (List.mem_of_getElem? gA);refine ax (aj [1,3,5,13,14,15] rfl ?_);refine aq (aD (af (ab 1 rfl (a9 ag rfl rfl rfl rfl rfl (kF.le cn) (by rw[Int.toNat_natCast];exact JF) (by omega) (by omega) fun _=> ?_))));refine ab 2 rfl (ae [1,3,5,7,8,13,14,15] ?_)
  cases fb
  ·
   skip
   refine af (ab 5 rfl (cS (vs:=[.int .i64 n1,.int .i64 d1,.pointer b1]) ag rfl rfl rfl rfl (Sh.le cn) rfl (by decide) dD (by omega) (by omega) fun _=>(au rfl rfl (iK (dB.le cn) (by omega)) ?_)));rintro v2 H2 ⟨ct,rfl⟩;refine ab 2 rfl (ae [1,3,5,13,14,15,29] ?_);refine az rfl (fun hb=> ?_) (fun hb=> ?_)
   ·
    have a7:fn x i<0:=by rw[tt];exact Aj.1 (by simpa using hb)
    refine af (ab 1 rfl (ae [6] ?_));refine aw ⟨.inr rfl,_,.tmp rfl (.nil),?_⟩;exact⟨cn.trans ct,false,rfl,⟨(fun h=>by cases h),(fun h=>by have h9:=h.1 i iE ib;grind)⟩⟩
   have wI:0≤fn x i:=by rw[tt];exact vx.1 (by simpa using hb)
   refine ax (aj [1,3,5,13,14,15] rfl ?_);refine aF rfl (aO rfl rfl ⟨by omega,by omega⟩ (ab 1 rfl (aA ?_)));exact⟨i+1,by omega,ay,cn.trans ct,(fun j hj hf=>by by_cases h9:j<i;exact iB j h9 hf;(obtain rfl:j=i:=by omega);exact wI),by omega⟩
  ·
   skip
   refine af (ab 10 rfl (ae [1,3,5,13,14,15,29] ?_));refine dG rfl (ax (aj [1,3,5,13,14,15] rfl ?_));refine aF rfl (aO rfl rfl ⟨by omega,by omega⟩ (ab 1 rfl (aA ?_)));exact⟨i+1,by omega,ay,cn,(fun j hj hf=>by by_cases h9:j<i;exact iB j h9 hf;(obtain rfl:j=i:=by omega);rw[ib]at hf;cases hf),by omega⟩
 ·
  have hb:p.free.length≤i:=by simpa using hb
  obtain rfl:p.free.length=i:=by omega
  refine bC (aj [1,3,5] rfl ?_);refine aq (af (ab 4 rfl (ae [1,5,32,33,34] ?_)));refine aD (gj (fun(i:Nat)=>p.rows.length-i) (fun(i:Nat)=>put (put (put (put (put (emp) 1 (.val (.slice Ax p.free.length cx))) 5 (.box [.int .i64 tn,.int .i64 td,.pointer Sg])) 32 (.val (.slice Ar p.rows.length cr))) 33 (.val (.int .i64 (p.rows.length:Int)))) 34 (.val (.int .i64 (i:Int)))) (fun(i:Nat) H'=>Heap.le H H'∧(∀k,k<i→j4 (p.lp.rel k) (a5 p.lp.n (p.lp.a k) (fn x)-p.lp.b k*t))∧i≤p.rows.length) 0 (⟨cn,(fun j h=>by omega),Nat.zero_le _⟩) ay ?_);rintro i H2 ⟨ct,Sj,ox⟩;refine af (ab 1 rfl (ae [1,5,32,33,34,35] ?_));refine aq (az rfl (fun hb=> ?_) (fun hb=> ?_))
  ·
   have dX:i<p.rows.length:=by simpa using hb
   obtain⟨r,hr⟩:∃r,p.rows[i]? = some r:=⟨_,List.getElem?_eq_getElem dX⟩;obtain⟨A0,c0,f,A1,m1,c1,A2,m2,c2,jm,jK⟩:=fA i r hr;have mB:bL H (.agg #[.bool f,.slice A1 m1 c1,.slice A2 m2 c2]) r.2.2 N:=ez.bound jm;have Jf:=mB.size;have je:=a8.row i r hr;have s8:r.1.length=p.free.length:=je.1;have lQ:aH (bJ N) 3 H (.slice A0 r.1.length c0) r.1:=ez.aa1 jm
   have Sk:∀q,q∈r.1→aK q≤M:=fun q hq=>by
    have h9:=ez.size jm q hq;omega
   have N9:p.row i=r:=Prg.jF hr;refine ax (aj [1,5,32,33,34] rfl ?_);refine aq (aD (af (cS (vs:=[.slice A0 r.1.length c0,.int .i64 r.2.1,.bool f,.slice A1 m1 c1,.slice A2 m2 c2]) ag rfl rfl rfl rfl (fQ.le ct) rfl (by decide) jK (by omega) (by omega) fun _=>(bD gU rfl ?_))));obtain⟨ti,ak,al⟩:=ux;refine aM (.inl ⟨rfl,rfl⟩) rfl rfl rfl ak al rfl rfl rfl (ae [1,5,10,32,33,34] ?_);refine cg .bR [0,1,3,2,4,5,6] follows (by kernel_rfl) ?_;refine ab 3 rfl (aT rfl rfl (D4 (mB.le ct) (by omega)) (fun _ _ h=>by first | exact h.le | exact h.1) ?_);rintro _ H3 ⟨fu,WX,rfl,fM⟩;obtain⟨n3,d3,b3,rfl⟩:=fM.cells;refine aT rfl rfl (vh (N:=M) fM ((ht.le ct).le fu) (by omega) (by omega) (by omega)) (fun _ _ h=>by first | exact h.le | exact h.1) ?_;rintro _ H4 ⟨eZ,vg,rfl,Sl⟩;obtain⟨n4,d4,b4,rfl⟩:=Sl.cells;have ad6:=pU r.2.2 t;refine bD dd rfl ?_;obtain⟨ti,ak,al⟩:=bI;refine aM (.inl ⟨rfl,rfl⟩) rfl rfl rfl ak al rfl rfl rfl (ae [1,5,10,11,32,33,34] ?_);refine cg .bR [0,1,2,3,5,7,4,6,8,9,10] follows (by kernel_rfl) ?_;refine ab 6 rfl (aT rfl rfl (Em (lQ.le (cD N) ((ct.trans fu).trans eZ)) (by omega) (by omega)) (fun _ _ h=>by first | exact h.le | exact h.1) ?_)
   rintro v5 H5 ⟨gL,Cx⟩;refine aT rfl rfl (WV (s:=M) Cx (hx.le fi (((ct.trans fu).trans eZ).trans gL)) (by omega) Sk zI (by rw[je.1];have h9:((p.free.length:Int)+2)*(2*M+2)≤402*(2*M+2):=Int.mul_le_mul_of_nonneg_right (by omega) (by omega);omega)) (fun _ _ h=>by first | exact h.le | exact h.1) ?_;rintro _ H6 ⟨iQ,vs6,rfl,ER⟩;obtain⟨n6,d6,b6,rfl⟩:=ER.cells;have ad7:=aa2 (M:=M) r.1.length (fn r.1) (fn x) (fun j hj=>Sk _ (KE hj)) (fun j hj=>zI _ (KE (by omega)));have ad8:((r.1.length*(2*M+2)+1:Nat):Int)≤1040000000801:=(by rw[je.1];have h9:p.free.length*(2*M+2)≤400*(2*M+2):=Nat.mul_le_mul_right _ ep;omega);refine aT rfl rfl (vi (N:=max (r.1.length*(2*M+2)+1) (M+1)) ER ((Sl.le gL).le iQ) (by omega) (by omega) (by omega)) (fun _ _ h=>by first | exact h.le | exact h.1) ?_;rintro _ H7 ⟨fW,vs7,rfl,Sm⟩;obtain⟨n7,d7,b7,rfl⟩:=Sm.cells;refine aT rfl rfl (acH Sm (by have h9:=pV (a5 r.1.length (fn r.1) (fn x)) (r.2.2*t);omega) je.2) (fun _ _ h=>by first | exact h.le | exact h.1) ?_;rintro _ H8 ⟨ln,b8,rfl,Cu⟩;have jI:=(((((ct.trans fu).trans eZ).trans gL).trans iQ).trans fW).trans ln
   have Sn:j4 r.2.1 (a5 r.1.length (fn r.1) (fn x)-r.2.2*t)↔j4 (p.lp.rel i) (a5 p.lp.n (p.lp.a i) (fn x)-p.lp.b i*t):=by show _↔j4 (p.row i).2.1 (a5 p.free.length (fun j=>fn (p.row i).1 j) (fn x)-(p.row i).2.2*t);rw[N9,je.1]
   refine ab 1 rfl (ae [1,5,32,33,34,53] ?_);refine az rfl (fun hb=> ?_) (fun hb=> ?_)
   ·
    have Lx:¬j4 (p.lp.rel i) (a5 p.lp.n (p.lp.a i) (fn x)-p.lp.b i*t):=fun h=>by have h9:=Cu.2 (Sn.2 h);rw[h9]at hb;simp at hb
    refine af (ab 1 rfl (ae [6] ?_));refine aw ⟨.inr rfl,_,.tmp rfl (.nil),?_⟩;exact⟨jI,false,rfl,⟨(fun h=>by cases h),(fun h=>absurd (h.2 i dX) Lx)⟩⟩
   have Lx:j4 (p.lp.rel i) (a5 p.lp.n (p.lp.a i) (fn x)-p.lp.b i*t):=Sn.1 (Cu.1 (by simpa using hb));refine ax (aj [1,5,32,33,34] rfl ?_);refine aF rfl (aO rfl rfl ⟨by omega,by omega⟩ (ab 1 rfl (aA ?_)));exact⟨i+1,by omega,ay,jI,(fun k hk=>by by_cases h9:k<i;exact Sj k h9;(obtain rfl:k=i:=by omega);exact Lx),by omega⟩
  have hb:p.rows.length≤i:=by simpa using hb
  refine bC (aj [] rfl ?_);refine af (ab 1 rfl (ae [6] ?_));refine aw ⟨.inr rfl,_,.tmp rfl (.nil),?_⟩;exact⟨ct,true,rfl,⟨(fun _=>⟨iB,fun k hk=>Sj k (Nat.lt_of_lt_of_le hk hb)⟩),fun _=>rfl⟩⟩
end Go.ar
