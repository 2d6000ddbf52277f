/- Walks over package simplex, simplex.go, part 2: stands, Value. -/
import Derived.Test.YtfjncmjbhfdnpaaGreatA10
set_option linter.unusedVariables false
namespace Go.ay
open Go.Proofs Num Lp
theorem afH{H:Heap}{vs:List Value}{q:Rat}{rel:Int}(hv:bo H vs q)(hN:(aJ q:Int)≤1099511627776)(hr:rel=1∨rel=2∨rel=3):
 Fn Tryz.prog 198 #[.int .i64 rel,.agg vs.toArray] H (fun v H'=>Heap.le H H'∧∃b,v = .bool b∧(b=true↔kr rel q)):=by
 obtain⟨n1,d1,b1,rfl⟩:=hv.cells;refine aU (args:=[_,_]) Tryz.func198 rfl rfl Tryz.ntmps198 rfl rfl fun w0=> ?_;refine ag [0,1] rfl ?_;refine ae ?_;refine bF rfl rfl ?_;refine vr 1 ?_;refine ab [0,3] ?_;refine al ?_;refine ae ?_;refine vr 1 ?_;refine ab [3,5] ?_;refine aD ?_;refine ae ?_;refine vr 2 ?_;refine ab [3,5,6] ?_;refine az rfl (fun hb=> ?_) (fun hb=> ?_)
 ·
  have hb:rel=1:=by simpa using hb
  refine ae ?_;refine vr 1 ?_;refine ar rfl rfl (iN hv hN) ?_;rintro v1 H1 ⟨aI,rfl⟩;refine vr 2 ?_;refine ab [4] ?_;refine aq ⟨.inr rfl,_,.tmp rfl (.nil),?_⟩;exact⟨aI,_,rfl,by simp only[decide_eq_true_eq,nC];unfold kr;constructor <;> intro h9 <;> grind⟩
 ·
  have hb:¬rel=1:=by simpa using hb
  refine ae ?_;refine vr 2 ?_;refine ab [3,11] ?_;refine az rfl (fun hb=> ?_) (fun hb=> ?_)
  ·
   have iL:rel=3:=by simpa using hb
   refine ae ?_;refine vr 1 ?_;refine ar rfl rfl (iN hv hN) ?_;rintro v1 H1 ⟨aI,rfl⟩;refine vr 2 ?_;refine ab [4] ?_;refine aq ⟨.inr rfl,_,.tmp rfl (.nil),?_⟩;exact⟨aI,_,rfl,by simp only[decide_eq_true_eq,ge_iff_le,kV];unfold kr;constructor <;> intro h9 <;> grind⟩
  ·
   have iL:¬rel=3:=by simpa using hb
   refine aw ?_;refine ag [3] rfl ?_;refine ae ?_;refine vr 1 ?_;refine ar rfl rfl (iN hv hN) ?_;rintro v1 H1 ⟨aI,rfl⟩;refine vr 2 ?_;refine ab [4] ?_;refine aq ⟨.inr rfl,_,.tmp rfl (.nil),?_⟩;exact⟨aI,_,rfl,by simp only[beq_iff_eq,wo];unfold kr;constructor <;> intro h9 <;> grind⟩
theorem OG{H:Heap}{v xv:Value}{p:Prg}{x:List Rat}{t:Rat}{ts:List Value}{N M:Nat}(hp:cN N H v p)(aP:p.Ok)(hx:aC bo 3 H xv x)(cj:x.length=p.free.length)(ht:bo H ts t)(U3:aJ t≤1)(Dj:∀q,q∈x→aJ q≤M)(VD:N+2≤M)(hM:M≤1300000000):
 Fn Tryz.prog 159 #[v,xv,.agg ts.toArray] H (fun v H'=>Heap.le H H'∧∃b,v = .bool b∧(b=true↔p.lp.dJ t (fn x))):=by
 obtain⟨fv,fG,rfl,cB,cF⟩:=id hp
 obtain⟨Af,cf,xf,rfl,ea,eH⟩:=cB.one
 obtain⟨Ar,cr,xr,rfl,cL,du⟩:=cF.row
 obtain⟨tn,td,VW,rfl⟩:=ht.cells
 obtain⟨Ax,cx,xx,rfl,mR,mS⟩:=hx.num
 rw[cj]at hx⊢
 have dY:=aP.dR
 have iQ:=aP.rows;refine aU (args:=[_,_,_]) Tryz.func159 rfl rfl Tryz.ntmps159 rfl rfl fun w0=> ?_;refine ag [0,1,2] rfl ?_;refine ae ?_;refine bF rfl rfl ?_;refine bF rfl rfl ?_;refine vr 1 ?_;refine ab [1,3,5] ?_;refine al ?_;refine ae ?_;refine vr 4 ?_;refine ab [1,3,5,13,14,15] ?_;refine aD ?_;refine ft (fun(i:Nat)=>p.free.length-i) (fun(i:Nat)=>put (put (put (put (put (put (emp) 1 (.val (.slice Ax p.free.length cx))) 3 (.box [.slice Af p.free.length cf,.slice Ar p.rows.length cr])) 5 (.box [.int .i64 tn,.int .i64 td,.pointer VW])) 13 (.val (.slice Af p.free.length cf))) 14 (.val (.int .i64 (p.free.length:Int)))) 15 (.val (.int .i64 (i:Int)))) (fun(i:Nat) H'=>Heap.le H H'∧(∀j,j<i→p.lp.free j=false→0≤fn x j)∧i≤p.free.length) 0 (⟨.refl _,(fun j h=>by omega),Nat.zero_le _⟩) au ?_;rintro i H1 ⟨aI,cO,hi⟩;refine ae ?_;refine vr 1 ?_;refine ab [1,3,5,13,14,15,16] ?_;refine al ?_;refine az rfl (fun hb=> ?_) (fun hb=> ?_)
 ·
  have gD:i<p.free.length:=by simpa using hb
  obtain⟨fb,fC⟩:∃fb,p.free[i]? = some fb:=⟨_,List.getElem?_eq_getElem gD⟩;obtain⟨uf,y6,y8⟩:=eH i fb fC
  cases y8
  have je:p.lp.free i=fb:=Prg.yq fC;obtain⟨q,dG⟩:∃q,x[i]? = some q:=⟨_,List.getElem?_eq_getElem (by omega)⟩;obtain⟨n1,d1,b1,dO,ee⟩:=mS i q dG;have eO:fn x i=q:=gq dG;have uz:=Dj q (List.mem_of_getElem? dG);refine aw ?_;refine ag [1,3,5,13,14,15] rfl ?_;refine al ?_;refine aD ?_;refine ae ?_;refine vr 1 ?_;refine a6 af rfl rfl rfl rfl rfl (ea.le aI) (by rw[Int.toNat_natCast];exact y6) (by omega) (by omega) fun _=> ?_;refine vr 2 ?_;refine ab [1,3,5,7,8,13,14,15] ?_
  cases fb
  ·
   skip
   refine ae ?_;refine vr 5 ?_;refine cI (vs:=[.int .i64 n1,.int .i64 d1,.pointer b1]) af rfl rfl rfl rfl (mR.le aI) rfl (by decide) ee (by omega) (by omega) fun _=> ?_;refine ar rfl rfl (iN (dO.le aI) (by omega)) ?_;rintro v2 H2 ⟨aM,rfl⟩;refine vr 2 ?_;refine ab [1,3,5,13,14,15,29] ?_;refine az rfl (fun hb=> ?_) (fun hb=> ?_)
   ·
    have bH:fn x i<0:=by rw[eO];exact yE.1 (by simpa using hb)
    refine ae ?_;refine vr 1 ?_;refine ab [6] ?_;refine aq ⟨.inr rfl,_,.tmp rfl (.nil),?_⟩;exact⟨aI.trans aM,false,rfl,⟨(fun h=>by cases h),(fun h=>by have h9:=h.1 i gD je;grind)⟩⟩
   ·
    have vy:0≤fn x i:=by rw[eO];exact kV.1 (by simpa using hb)
    refine aw ?_;refine ag [1,3,5,13,14,15] rfl ?_;refine aE rfl ?_;refine aN rfl rfl ⟨by omega,by omega⟩ ?_;refine vr 1 ?_;refine aA ?_;exact⟨i+1,by omega,au,aI.trans aM,(fun j hj hf=>by by_cases h9:j<i;exact cO j h9 hf;(obtain rfl:j=i:=by omega);exact vy),by omega⟩
  ·
   skip
   refine ae ?_;refine vr 10 ?_;refine ab [1,3,5,13,14,15,29] ?_;refine dg rfl ?_;refine aw ?_;refine ag [1,3,5,13,14,15] rfl ?_;refine aE rfl ?_;refine aN rfl rfl ⟨by omega,by omega⟩ ?_;refine vr 1 ?_;refine aA ?_;exact⟨i+1,by omega,au,aI,(fun j hj hf=>by by_cases h9:j<i;exact cO j h9 hf;(obtain rfl:j=i:=by omega);rw[je]at hf;cases hf),by omega⟩
 ·
  have hb:p.free.length≤i:=by simpa using hb
  obtain rfl:p.free.length=i:=by omega
  refine bB ?_;refine ag [1,3,5] rfl ?_;refine al ?_;refine ae ?_;refine vr 4 ?_;refine ab [1,5,32,33,34] ?_;refine aD ?_;refine ft (fun(i:Nat)=>p.rows.length-i) (fun(i:Nat)=>put (put (put (put (put (emp) 1 (.val (.slice Ax p.free.length cx))) 5 (.box [.int .i64 tn,.int .i64 td,.pointer VW])) 32 (.val (.slice Ar p.rows.length cr))) 33 (.val (.int .i64 (p.rows.length:Int)))) 34 (.val (.int .i64 (i:Int)))) (fun(i:Nat) H'=>Heap.le H H'∧(∀k,k<i→kr (p.lp.rel k) (aX p.lp.n (p.lp.a k) (fn x)-p.lp.b k*t))∧i≤p.rows.length) 0 (⟨aI,(fun j h=>by omega),Nat.zero_le _⟩) au ?_;rintro i H2 ⟨aM,VX,ng⟩;refine ae ?_;refine vr 1 ?_;refine ab [1,5,32,33,34,35] ?_;refine al ?_;refine az rfl (fun hb=> ?_) (fun hb=> ?_)
  ·
   have cQ:i<p.rows.length:=by simpa using hb
   obtain⟨r,hr⟩:∃r,p.rows[i]? = some r:=⟨_,List.getElem?_eq_getElem cQ⟩;obtain⟨A0,c0,f,A1,m1,c1,A2,m2,c2,fU,dL⟩:=du i r hr;have jm:bN H (.agg #[.bool f,.slice A1 m1 c1,.slice A2 m2 c2]) r.2.2 N:=eZ.bound fU;have It:=jm.size;have fI:=aP.row i r hr;have lF:r.1.length=p.free.length:=fI.1;have jl:aC (aS N) 3 H (.slice A0 r.1.length c0) r.1:=eZ.T9 fU
   have VY:∀q,q∈r.1→aJ q≤M:=fun q hq=>by
    have h9:=eZ.size fU q hq;omega
   have lE:p.row i=r:=Prg.gu hr;refine aw ?_;refine ag [1,5,32,33,34] rfl ?_;refine al ?_;refine aD ?_;refine ae ?_;refine cI (vs:=[.slice A0 r.1.length c0,.int .i64 r.2.1,.bool f,.slice A1 m1 c1,.slice A2 m2 c2]) af rfl rfl rfl rfl (cL.le aM) rfl (by decide) dL (by omega) (by omega) fun _=> ?_;refine bh gY rfl ?_;obtain⟨ti,aj,ak⟩:=rU;refine aG (.inl ⟨rfl,rfl⟩) rfl rfl rfl aj ak rfl rfl rfl ?_;refine ab [1,5,10,32,33,34] ?_;refine bL .bn [0,1,3,2,4,5,6] follows (by kernel_rfl) ?_;refine vr 3 ?_;refine aH rfl rfl (vV (jm.le aM) (by omega)) (fun _ _ h=>by first | exact h.le | exact h.1) ?_;rintro _ H3 ⟨a7,Q6,rfl,iM⟩;obtain⟨n3,d3,b3,rfl⟩:=iM.cells;refine aH rfl rfl (tY (N:=M) iM ((ht.le aM).le a7) (by omega) (by omega) (by omega)) (fun _ _ h=>by first | exact h.le | exact h.1) ?_;rintro _ H4 ⟨bE,we,rfl,VZ⟩;obtain⟨n4,d4,b4,rfl⟩:=VZ.cells;have ahh:=nx r.2.2 t;refine bh dT rfl ?_;obtain⟨ti,aj,ak⟩:=bV;refine aG (.inl ⟨rfl,rfl⟩) rfl rfl rfl aj ak rfl rfl rfl ?_;refine ab [1,5,10,11,32,33,34] ?_;refine bL .bn [0,1,2,3,5,7,4,6,8,9,10] follows (by kernel_rfl) ?_;refine vr 6 ?_;refine aH rfl rfl (sE (jl.le (a8 N) ((aM.trans a7).trans bE)) (by omega) (by omega)) (fun _ _ h=>by first | exact h.le | exact h.1) ?_
   rintro v5 H5 ⟨cA,uT⟩;refine aH rfl rfl (HK (s:=M) uT (hx.le fD (((aM.trans a7).trans bE).trans cA)) (by omega) VY Dj (by rw[fI.1];have h9:((p.free.length:Int)+2)*(2*M+2)≤402*(2*M+2):=Int.mul_le_mul_of_nonneg_right (by omega) (by omega);omega)) (fun _ _ h=>by first | exact h.le | exact h.1) ?_;rintro _ H6 ⟨fh,vs6,rfl,wA⟩;obtain⟨n6,d6,b6,rfl⟩:=wA.cells;have ahi:=sZ (M:=M) r.1.length (fn r.1) (fn x) (fun j hj=>VY _ (lI hj)) (fun j hj=>Dj _ (lI (by omega)));have ahj:((r.1.length*(2*M+2)+1:Nat):Int)≤1040000000801:=(by rw[fI.1];have h9:p.free.length*(2*M+2)≤400*(2*M+2):=Nat.mul_le_mul_right _ dY;omega);refine aH rfl rfl (tZ (N:=max (r.1.length*(2*M+2)+1) (M+1)) wA ((VZ.le cA).le fh) (by omega) (by omega) (by omega)) (fun _ _ h=>by first | exact h.le | exact h.1) ?_;rintro _ H7 ⟨gw,vs7,rfl,Gb⟩;obtain⟨n7,d7,b7,rfl⟩:=Gb.cells;refine aH rfl rfl (afH Gb (by have h9:=qb (aX r.1.length (fn r.1) (fn x)) (r.2.2*t);omega) fI.2) (fun _ _ h=>by first | exact h.le | exact h.1) ?_;rintro _ H8 ⟨jt,b8,rfl,Ju⟩;have gJ:=(((((aM.trans a7).trans bE).trans cA).trans fh).trans gw).trans jt
   have V0:kr r.2.1 (aX r.1.length (fn r.1) (fn x)-r.2.2*t)↔kr (p.lp.rel i) (aX p.lp.n (p.lp.a i) (fn x)-p.lp.b i*t):=by show _↔kr (p.row i).2.1 (aX p.free.length (fun j=>fn (p.row i).1 j) (fn x)-(p.row i).2.2*t);rw[lE,fI.1]
   refine vr 1 ?_;refine ab [1,5,32,33,34,53] ?_;refine az rfl (fun hb=> ?_) (fun hb=> ?_)
   ·
    have OH:¬kr (p.lp.rel i) (aX p.lp.n (p.lp.a i) (fn x)-p.lp.b i*t):=fun h=>by have h9:=Ju.2 (V0.2 h);rw[h9]at hb;simp at hb
    refine ae ?_;refine vr 1 ?_;refine ab [6] ?_;refine aq ⟨.inr rfl,_,.tmp rfl (.nil),?_⟩;exact⟨gJ,false,rfl,⟨(fun h=>by cases h),(fun h=>absurd (h.2 i cQ) OH)⟩⟩
   ·
    have OH:kr (p.lp.rel i) (aX p.lp.n (p.lp.a i) (fn x)-p.lp.b i*t):=V0.1 (Ju.1 (by simpa using hb));refine aw ?_;refine ag [1,5,32,33,34] rfl ?_;refine aE rfl ?_;refine aN rfl rfl ⟨by omega,by omega⟩ ?_;refine vr 1 ?_;refine aA ?_;exact⟨i+1,by omega,au,gJ,(fun k hk=>by by_cases h9:k<i;exact VX k h9;(obtain rfl:k=i:=by omega);exact OH),by omega⟩
  ·
   have hb:p.rows.length≤i:=by simpa using hb
   refine bB ?_;refine ag [] rfl ?_;refine ae ?_;refine vr 1 ?_;refine ab [6] ?_;refine aq ⟨.inr rfl,_,.tmp rfl (.nil),?_⟩;exact⟨aM,true,rfl,⟨(fun _=>⟨cO,fun k hk=>VX k (Nat.lt_of_lt_of_le hk hb)⟩),fun _=>rfl⟩⟩
end Go.ay
