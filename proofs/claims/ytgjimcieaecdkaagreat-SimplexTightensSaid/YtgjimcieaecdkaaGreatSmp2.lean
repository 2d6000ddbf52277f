/- Walks over package simplex, simplex.go, part 2: stands, Value. -/
import Derived.Test.YtgjimcieaecdkaaGreatA10
set_option linter.unusedVariables false
namespace Go.au
open Go.Proofs Num Lp
theorem ZF{H:Heap}{vs:List Value}{q:Rat}{rel:Int}(hv:aT H vs q)(hN:(aC q:Int)≤1099511627776)(hr:rel=1∨rel=2∨rel=3):
 Fn Tryz.prog 84 #[.int .i64 rel,.agg vs.toArray] H (fun v H'=>Heap.le H H'∧∃b,v = .bool b∧(b=true↔jZ rel q)):=by
 obtain⟨n1,d1,b1,rfl⟩:=hv.cells;refine aU (args:=[_,_]) Tryz.func84 rfl rfl Tryz.ntmps84 rfl rfl fun w0=> ?_;refine ah [0,1] rfl ?_;refine ae (bR rfl rfl (aa 1 rfl (ab [0,3] ?_)));refine ao (ae (aa 1 rfl (ab [3,5] ?_)));refine aD (ae (aa 2 rfl (ab [3,5,6] ?_)));refine az rfl (fun hb=> ?_) (fun hb=> ?_)
 ·
  have hb:rel=1:=by simpa using hb
  refine ae (aa 1 rfl (aq rfl rfl (fq hv hN) ?_));rintro v1 H1 ⟨bC,rfl⟩;refine aa 2 rfl (ab [4] ?_);refine ar ⟨.inr rfl,_,.tmp rfl (.nil),?_⟩;exact⟨bC,_,rfl,by simp only[decide_eq_true_eq,pa];unfold jZ;constructor <;> intro h9 <;> grind⟩
 ·
  have hb:¬rel=1:=by simpa using hb
  refine ae (aa 2 rfl (ab [3,11] ?_));refine az rfl (fun hb=> ?_) (fun hb=> ?_)
  ·
   have fY:rel=3:=by simpa using hb
   refine ae (aa 1 rfl (aq rfl rfl (fq hv hN) ?_));rintro v1 H1 ⟨bC,rfl⟩;refine aa 2 rfl (ab [4] ?_);refine ar ⟨.inr rfl,_,.tmp rfl (.nil),?_⟩;exact⟨bC,_,rfl,by simp only[decide_eq_true_eq,ge_iff_le,mc];unfold jZ;constructor <;> intro h9 <;> grind⟩
  have fY:¬rel=3:=by simpa using hb
  refine aw (ah [3] rfl ?_);refine ae (aa 1 rfl (aq rfl rfl (fq hv hN) ?_));rintro v1 H1 ⟨bC,rfl⟩;refine aa 2 rfl (ab [4] ?_);refine ar ⟨.inr rfl,_,.tmp rfl (.nil),?_⟩;exact⟨bC,_,rfl,by simp only[beq_iff_eq,j2];unfold jZ;constructor <;> intro h9 <;> grind⟩
theorem IN{H:Heap}{v xv:Value}{p:Prg}{x:List Rat}{t:Rat}{ts:List Value}{N M:Nat}(hp:dN N H v p)(bx:p.Ok)(hx:aM aT 3 H xv x)(ck:x.length=p.free.length)(ht:aT H ts t)(ht1:aC t≤1)(yg:∀q,q∈x→aC q≤M)(hNM:N+2≤M)(hM:M≤1300000000):
 Fn Tryz.prog 48 #[v,xv,.agg ts.toArray] H (fun v H'=>Heap.le H H'∧∃b,v = .bool b∧(b=true↔p.lp.ft t (fn x))):=by
 obtain⟨fv,j8,rfl,eu,ew⟩:=id hp
 obtain⟨Af,cf,xf,rfl,iR,iS⟩:=eu.one
 obtain⟨Ar,cr,xr,rfl,fy,eW⟩:=ew.row
 obtain⟨tn,td,Pf,rfl⟩:=ht.cells
 obtain⟨Ax,cx,xx,rfl,AR,AS⟩:=hx.num
 rw[ck]at hx⊢
 have eT:=bx.eZ
 have qD:=bx.rows;refine aU (args:=[_,_,_]) Tryz.func48 rfl rfl Tryz.ntmps48 rfl rfl fun w0=> ?_;refine ah [0,1,2] rfl ?_;refine ae (bR rfl rfl (bR rfl rfl (aa 1 rfl (ab [1,3,5] ?_))));refine ao (ae (aa 4 rfl (ab [1,3,5,13,14,15] ?_)));refine aD (gm (fun(i:Nat)=>p.free.length-i) (fun(i:Nat)=>put (put (put (put (put (put (emp) 1 (.val (.slice Ax p.free.length cx))) 3 (.box [.slice Af p.free.length cf,.slice Ar p.rows.length cr])) 5 (.box [.int .i64 tn,.int .i64 td,.pointer Pf])) 13 (.val (.slice Af p.free.length cf))) 14 (.val (.int .i64 (p.free.length:Int)))) 15 (.val (.int .i64 (i:Int)))) (fun(i:Nat) H'=>Heap.le H H'∧(∀j,j<i→p.lp.free j=false→0≤fn x j)∧i≤p.free.length) 0 (⟨.refl _,(fun j h=>by omega),Nat.zero_le _⟩) av ?_);rintro i H1 ⟨bC,ec,hi⟩;refine ae (aa 1 rfl (ab [1,3,5,13,14,15,16] ?_));refine ao (az rfl (fun hb=> ?_) (fun hb=> ?_))
 ·
  have eP:i<p.free.length:=by simpa using hb
  obtain⟨fb,gE⟩:∃fb,p.free[i]? = some fb:=⟨_,List.getElem?_eq_getElem eP⟩;obtain⟨uf,uK,uL⟩:=iS i fb gE
  cases uL
  have kg:p.lp.free i=fb:=Prg.CB gE;obtain⟨q,dI⟩:∃q,x[i]? = some q:=⟨_,List.getElem?_eq_getElem (by omega)⟩;obtain⟨n1,d1,b1,cM,di⟩:=AS i q dI;have ia:fn x i=q:=jl dI;have po:=yg q (List.mem_of_getElem? dI);refine aw (ah [1,3,5,13,14,15] rfl ?_);refine ao (aD (ae (aa 1 rfl (a5 ag rfl rfl rfl rfl rfl (iR.le bC) (by rw[Int.toNat_natCast];exact uK) (by omega) (by omega) fun _=> ?_))));refine aa 2 rfl (ab [1,3,5,7,8,13,14,15] ?_)
  cases fb
  ·
   skip
   refine ae (aa 5 rfl (cQ (vs:=[.int .i64 n1,.int .i64 d1,.pointer b1]) ag rfl rfl rfl rfl (AR.le bC) rfl (by decide) di (by omega) (by omega) fun _=>(aq rfl rfl (fq (cM.le bC) (by omega)) ?_)));rintro v2 H2 ⟨aW,rfl⟩;refine aa 2 rfl (ab [1,3,5,13,14,15,29] ?_);refine az rfl (fun hb=> ?_) (fun hb=> ?_)
   ·
    have a8:fn x i<0:=by rw[ia];exact wk.1 (by simpa using hb)
    refine ae (aa 1 rfl (ab [6] ?_));refine ar ⟨.inr rfl,_,.tmp rfl (.nil),?_⟩;exact⟨bC.trans aW,false,rfl,⟨(fun h=>by cases h),(fun h=>by have h9:=h.1 i eP kg;grind)⟩⟩
   have EN:0≤fn x i:=by rw[ia];exact mc.1 (by simpa using hb)
   refine aw (ah [1,3,5,13,14,15] rfl ?_);refine aB rfl (aJ rfl rfl ⟨by omega,by omega⟩ (aa 1 rfl (ay ?_)));exact⟨i+1,by omega,av,bC.trans aW,(fun j hj hf=>by by_cases h9:j<i;exact ec j h9 hf;(obtain rfl:j=i:=by omega);exact EN),by omega⟩
  ·
   skip
   refine ae (aa 10 rfl (ab [1,3,5,13,14,15,29] ?_));refine cP rfl (aw (ah [1,3,5,13,14,15] rfl ?_));refine aB rfl (aJ rfl rfl ⟨by omega,by omega⟩ (aa 1 rfl (ay ?_)));exact⟨i+1,by omega,av,bC,(fun j hj hf=>by by_cases h9:j<i;exact ec j h9 hf;(obtain rfl:j=i:=by omega);rw[kg]at hf;cases hf),by omega⟩
 ·
  have hb:p.free.length≤i:=by simpa using hb
  obtain rfl:p.free.length=i:=by omega
  refine bA (ah [1,3,5] rfl ?_);refine ao (ae (aa 4 rfl (ab [1,5,32,33,34] ?_)));refine aD (gm (fun(i:Nat)=>p.rows.length-i) (fun(i:Nat)=>put (put (put (put (put (emp) 1 (.val (.slice Ax p.free.length cx))) 5 (.box [.int .i64 tn,.int .i64 td,.pointer Pf])) 32 (.val (.slice Ar p.rows.length cr))) 33 (.val (.int .i64 (p.rows.length:Int)))) 34 (.val (.int .i64 (i:Int)))) (fun(i:Nat) H'=>Heap.le H H'∧(∀k,k<i→jZ (p.lp.rel k) (bL p.lp.n (p.lp.a k) (fn x)-p.lp.b k*t))∧i≤p.rows.length) 0 (⟨bC,(fun j h=>by omega),Nat.zero_le _⟩) av ?_);rintro i H2 ⟨aW,Pg,nC⟩;refine ae (aa 1 rfl (ab [1,5,32,33,34,35] ?_));refine ao (az rfl (fun hb=> ?_) (fun hb=> ?_))
  ·
   have dS:i<p.rows.length:=by simpa using hb
   obtain⟨r,hr⟩:∃r,p.rows[i]? = some r:=⟨_,List.getElem?_eq_getElem dS⟩;obtain⟨A0,c0,f,A1,m1,c1,A2,m2,c2,eH,gS⟩:=eW i r hr;have jW:cj H (.agg #[.bool f,.slice A1 m1 c1,.slice A2 m2 c2]) r.2.2 N:=ep.bound eH;have Dk:=jW.size;have pX:=bx.row i r hr;have m5:r.1.length=p.free.length:=pX.1;have oP:aM (ca N) 3 H (.slice A0 r.1.length c0) r.1:=ep.OQ eH
   have Ph:∀q,q∈r.1→aC q≤M:=fun q hq=>by
    have h9:=ep.size eH q hq;omega
   have yE:p.row i=r:=Prg.l7 hr;refine aw (ah [1,5,32,33,34] rfl ?_);refine ao (aD (ae (cQ (vs:=[.slice A0 r.1.length c0,.int .i64 r.2.1,.bool f,.slice A1 m1 c1,.slice A2 m2 c2]) ag rfl rfl rfl rfl (fy.le aW) rfl (by decide) gS (by omega) (by omega) fun _=>(bG ko rfl ?_))));obtain⟨ti,aj,ak⟩:=q7;refine aO (.inl ⟨rfl,rfl⟩) rfl rfl rfl aj ak rfl rfl rfl (ab [1,5,10,32,33,34] ?_);refine bT .bN [0,1,3,2,4,5,6] follows (by kernel_rfl) ?_;refine aa 3 rfl (aI rfl rfl (p9 (jW.le aW) (by omega)) (fun _ _ h=>by first | exact h.le | exact h.1) ?_);rintro _ H3 ⟨dH,T3,rfl,fM⟩;obtain⟨n3,d3,b3,rfl⟩:=fM.cells;refine aI rfl rfl (qh (N:=M) fM ((ht.le aW).le dH) (by omega) (by omega) (by omega)) (fun _ _ h=>by first | exact h.le | exact h.1) ?_;rintro _ H4 ⟨dr,tU,rfl,Pj⟩;obtain⟨n4,d4,b4,rfl⟩:=Pj.cells;have abq:=nN r.2.2 t;refine bG cN rfl ?_;obtain⟨ti,aj,ak⟩:=a9;refine aO (.inl ⟨rfl,rfl⟩) rfl rfl rfl aj ak rfl rfl rfl (ab [1,5,10,11,32,33,34] ?_);refine bT .bN [0,1,2,3,5,7,4,6,8,9,10] follows (by kernel_rfl) ?_;refine aa 6 rfl (aI rfl rfl (o4 (oP.le (fu N) ((aW.trans dH).trans dr)) (by omega) (by omega)) (fun _ _ h=>by first | exact h.le | exact h.1) ?_)
   rintro v5 H5 ⟨cU,Ef⟩;refine aI rfl rfl (CI (s:=M) Ef (hx.le dT (((aW.trans dH).trans dr).trans cU)) (by omega) Ph yg (by rw[pX.1];have h9:((p.free.length:Int)+2)*(2*M+2)≤402*(2*M+2):=Int.mul_le_mul_of_nonneg_right (by omega) (by omega);omega)) (fun _ _ h=>by first | exact h.le | exact h.1) ?_;rintro _ H6 ⟨gg,ZG,rfl,rN⟩;obtain⟨n6,d6,b6,rfl⟩:=rN.cells;have abr:=sw (M:=M) r.1.length (fn r.1) (fn x) (fun j hj=>Ph _ (my hj)) (fun j hj=>yg _ (my (by omega)));have abt:((r.1.length*(2*M+2)+1:Nat):Int)≤1040000000801:=(by rw[pX.1];have h9:p.free.length*(2*M+2)≤400*(2*M+2):=Nat.mul_le_mul_right _ eT;omega);refine aI rfl rfl (o3 (N:=max (r.1.length*(2*M+2)+1) (M+1)) rN ((Pj.le cU).le gg) (by omega) (by omega) (by omega)) (fun _ _ h=>by first | exact h.le | exact h.1) ?_;rintro _ H7 ⟨gw,ZH,rfl,AT⟩;obtain⟨n7,d7,b7,rfl⟩:=AT.cells;refine aI rfl rfl (ZF AT (by have h9:=l5 (bL r.1.length (fn r.1) (fn x)) (r.2.2*t);omega) pX.2) (fun _ _ h=>by first | exact h.le | exact h.1) ?_;rintro _ H8 ⟨gG,b8,rfl,Pk⟩;have eo:=(((((aW.trans dH).trans dr).trans cU).trans gg).trans gw).trans gG
   have Pm:jZ r.2.1 (bL r.1.length (fn r.1) (fn x)-r.2.2*t)↔jZ (p.lp.rel i) (bL p.lp.n (p.lp.a i) (fn x)-p.lp.b i*t):=by show _↔jZ (p.row i).2.1 (bL p.free.length (fun j=>fn (p.row i).1 j) (fn x)-(p.row i).2.2*t);rw[yE,pX.1]
   refine aa 1 rfl (ab [1,5,32,33,34,53] ?_);refine az rfl (fun hb=> ?_) (fun hb=> ?_)
   ·
    have IP:¬jZ (p.lp.rel i) (bL p.lp.n (p.lp.a i) (fn x)-p.lp.b i*t):=fun h=>by have h9:=Pk.2 (Pm.2 h);rw[h9]at hb;simp at hb
    refine ae (aa 1 rfl (ab [6] ?_));refine ar ⟨.inr rfl,_,.tmp rfl (.nil),?_⟩;exact⟨eo,false,rfl,⟨(fun h=>by cases h),(fun h=>absurd (h.2 i dS) IP)⟩⟩
   have IP:jZ (p.lp.rel i) (bL p.lp.n (p.lp.a i) (fn x)-p.lp.b i*t):=Pm.1 (Pk.1 (by simpa using hb));refine aw (ah [1,5,32,33,34] rfl ?_);refine aB rfl (aJ rfl rfl ⟨by omega,by omega⟩ (aa 1 rfl (ay ?_)));exact⟨i+1,by omega,av,eo,(fun k hk=>by by_cases h9:k<i;exact Pg k h9;(obtain rfl:k=i:=by omega);exact IP),by omega⟩
  have hb:p.rows.length≤i:=by simpa using hb
  refine bA (ah [] rfl ?_);refine ae (aa 1 rfl (ab [6] ?_));refine ar ⟨.inr rfl,_,.tmp rfl (.nil),?_⟩;exact⟨aW,true,rfl,⟨(fun _=>⟨ec,fun k hk=>Pg k (Nat.lt_of_lt_of_le hk hb)⟩),fun _=>rfl⟩⟩
end Go.au
