/- Walks over package simplex, simplex.go, part 2: stands, Value. -/
import Derived.Test.YtfjncmjbhfdnpaaGreatA15
set_option linter.unusedVariables false
namespace Go.ar
open Go.Proofs Num Lp
theorem ajK{H:Heap}{vs:List Value}{q:Rat}{rel:Int}(hv:bE H vs q)(hN:(aG q:Int)≤1099511627776)(hr:rel=1∨rel=2∨rel=3):
 Fn Tryz.prog 198 #[.int .i64 rel,.agg vs.toArray] H (fun v H'=>Heap.le H H'∧∃b,v = .bool b∧(b=true↔m7 rel q)):=by
 obtain⟨n1,d1,b1,rfl⟩:=hv.cells;refine aZ (args:=[_,_]) Tryz.func198 rfl rfl Tryz.ntmps198 rfl rfl fun w0=> ?_;refine ag [0,1] rfl ?_;refine ab ?_;refine bS rfl rfl ?_;refine vr 1 ?_;refine aa [0,3] ?_;refine al ?_;refine ab ?_;refine vr 1 ?_;refine aa [3,5] ?_;refine aC ?_;refine ab ?_;refine vr 2 ?_;refine aa [3,5,6] ?_;refine aB rfl (fun hb=> ?_) (fun hb=> ?_)
 ·
  have hb:rel=1:=by simpa using hb
  refine ab ?_;refine vr 1 ?_;refine aw rfl rfl (iT hv hN) ?_;rintro v1 H1 ⟨bH,rfl⟩;refine vr 2 ?_;refine aa [4] ?_;refine az ⟨.inr rfl,_,.tmp rfl (.nil),?_⟩;exact⟨bH,_,rfl,by simp only[decide_eq_true_eq,ur];unfold m7;constructor <;> intro h9 <;> grind⟩
 ·
  have hb:¬rel=1:=by simpa using hb
  refine ab ?_;refine vr 2 ?_;refine aa [3,11] ?_;refine aB rfl (fun hb=> ?_) (fun hb=> ?_)
  ·
   have jl:rel=3:=by simpa using hb
   refine ab ?_;refine vr 1 ?_;refine aw rfl rfl (iT hv hN) ?_;rintro v1 H1 ⟨bH,rfl⟩;refine vr 2 ?_;refine aa [4] ?_;refine az ⟨.inr rfl,_,.tmp rfl (.nil),?_⟩;exact⟨bH,_,rfl,by simp only[decide_eq_true_eq,ge_iff_le,qe];unfold m7;constructor <;> intro h9 <;> grind⟩
  ·
   have jl:¬rel=3:=by simpa using hb
   refine au ?_;refine ag [3] rfl ?_;refine ab ?_;refine vr 1 ?_;refine aw rfl rfl (iT hv hN) ?_;rintro v1 H1 ⟨bH,rfl⟩;refine vr 2 ?_;refine aa [4] ?_;refine az ⟨.inr rfl,_,.tmp rfl (.nil),?_⟩;exact⟨bH,_,rfl,by simp only[beq_iff_eq,lA];unfold m7;constructor <;> intro h9 <;> grind⟩
theorem Se{H:Heap}{v xv:Value}{p:Prg}{x:List Rat}{t:Rat}{ts:List Value}{N M:Nat}(hp:eJ N H v p)(bg:p.Ok)(hx:aR bE 3 H xv x)(cB:x.length=p.free.length)(ht:bE H ts t)(wE:aG t≤1)(Ez:∀q,q∈x→aG q≤M)(hNM:N+2≤M)(hM:M≤1300000000):
 Fn Tryz.prog 159 #[v,xv,.agg ts.toArray] H (fun v H'=>Heap.le H H'∧∃b,v = .bool b∧(b=true↔p.lp.jB t (fn x))):=by
 obtain⟨fv,fN,rfl,eo,ep⟩:=id hp
 obtain⟨Af,cf,xf,rfl,gZ,hO⟩:=eo.one
 obtain⟨Ar,cr,xr,rfl,eK,fO⟩:=ep.row
 obtain⟨tn,td,tb1,rfl⟩:=ht.cells
 obtain⟨Ax,cx,xx,rfl,HX,HY⟩:=hx.num
 rw[cB]at hx⊢
 have gL:=bg.gM
 have uL:=bg.rows;refine aZ (args:=[_,_,_]) Tryz.func159 rfl rfl Tryz.ntmps159 rfl rfl fun w0=> ?_;refine ag [0,1,2] rfl ?_;refine ab ?_;refine bS rfl rfl ?_;refine bS rfl rfl ?_;refine vr 1 ?_;refine aa [1,3,5] ?_;refine al ?_;refine ab ?_;refine vr 4 ?_;refine aa [1,3,5,13,14,15] ?_;refine aC ?_;refine fZ (fun(i:Nat)=>p.free.length-i) (fun(i:Nat)=>put (put (put (put (put (put (emp) 1 (.val (.slice Ax p.free.length cx))) 3 (.box [.slice Af p.free.length cf,.slice Ar p.rows.length cr])) 5 (.box [.int .i64 tn,.int .i64 td,.pointer tb1])) 13 (.val (.slice Af p.free.length cf))) 14 (.val (.int .i64 (p.free.length:Int)))) 15 (.val (.int .i64 (i:Int)))) (fun(i:Nat) H'=>Heap.le H H'∧(∀j,j<i→p.lp.free j=false→0≤fn x j)∧i≤p.free.length) 0 (⟨.refl _,(fun j h=>by omega),Nat.zero_le _⟩) an ?_;rintro i H1 ⟨bH,fT,hi⟩;refine ab ?_;refine vr 1 ?_;refine aa [1,3,5,13,14,15,16] ?_;refine al ?_;refine aB rfl (fun hb=> ?_) (fun hb=> ?_)
 ·
  have gg:i<p.free.length:=by simpa using hb
  obtain⟨fb,j5⟩:∃fb,p.free[i]? = some fb:=⟨_,List.getElem?_eq_getElem gg⟩;obtain⟨uf,lG,AW⟩:=hO i fb j5
  cases AW
  have nH:p.lp.free i=fb:=Prg.ue j5;obtain⟨q,dL⟩:∃q,x[i]? = some q:=⟨_,List.getElem?_eq_getElem (by omega)⟩;obtain⟨n1,d1,b1,cK,eD⟩:=HY i q dL;have gp:fn x i=q:=jC dL;have uD:=Ez q (List.mem_of_getElem? dL);refine au ?_;refine ag [1,3,5,13,14,15] rfl ?_;refine al ?_;refine aC ?_;refine ab ?_;refine vr 1 ?_;refine aM ae rfl rfl rfl rfl rfl (gZ.le bH) (by rw[Int.toNat_natCast];exact lG) (by omega) (by omega) fun _=> ?_;refine vr 2 ?_;refine aa [1,3,5,7,8,13,14,15] ?_
  cases fb
  ·
   skip
   refine ab ?_;refine vr 5 ?_;refine bR (vs:=[.int .i64 n1,.int .i64 d1,.pointer b1]) ae rfl rfl rfl rfl (HX.le bH) rfl (by decide) eD (by omega) (by omega) fun _=> ?_;refine aw rfl rfl (iT (cK.le bH) (by omega)) ?_;rintro v2 H2 ⟨bh,rfl⟩;refine vr 2 ?_;refine aa [1,3,5,13,14,15,29] ?_;refine aB rfl (fun hb=> ?_) (fun hb=> ?_)
   ·
    have bU:fn x i<0:=by rw[gp];exact CI.1 (by simpa using hb)
    refine ab ?_;refine vr 1 ?_;refine aa [6] ?_;refine az ⟨.inr rfl,_,.tmp rfl (.nil),?_⟩;exact⟨bH.trans bh,false,rfl,⟨(fun h=>by cases h),(fun h=>by have h9:=h.1 i gg nH;grind)⟩⟩
   ·
    have MB:0≤fn x i:=by rw[gp];exact qe.1 (by simpa using hb)
    refine au ?_;refine ag [1,3,5,13,14,15] rfl ?_;refine av rfl ?_;refine aD rfl rfl ⟨by omega,by omega⟩ ?_;refine vr 1 ?_;refine aq ?_;exact⟨i+1,by omega,an,bH.trans bh,(fun j hj hf=>by by_cases h9:j<i;exact fT j h9 hf;(obtain rfl:j=i:=by omega);exact MB),by omega⟩
  ·
   skip
   refine ab ?_;refine vr 10 ?_;refine aa [1,3,5,13,14,15,29] ?_;refine cU rfl ?_;refine au ?_;refine ag [1,3,5,13,14,15] rfl ?_;refine av rfl ?_;refine aD rfl rfl ⟨by omega,by omega⟩ ?_;refine vr 1 ?_;refine aq ?_;exact⟨i+1,by omega,an,bH,(fun j hj hf=>by by_cases h9:j<i;exact fT j h9 hf;(obtain rfl:j=i:=by omega);rw[nH]at hf;cases hf),by omega⟩
 ·
  have hb:p.free.length≤i:=by simpa using hb
  obtain rfl:p.free.length=i:=by omega
  refine aU ?_;refine ag [1,3,5] rfl ?_;refine al ?_;refine ab ?_;refine vr 4 ?_;refine aa [1,5,32,33,34] ?_;refine aC ?_;refine fZ (fun(i:Nat)=>p.rows.length-i) (fun(i:Nat)=>put (put (put (put (put (emp) 1 (.val (.slice Ax p.free.length cx))) 5 (.box [.int .i64 tn,.int .i64 td,.pointer tb1])) 32 (.val (.slice Ar p.rows.length cr))) 33 (.val (.int .i64 (p.rows.length:Int)))) 34 (.val (.int .i64 (i:Int)))) (fun(i:Nat) H'=>Heap.le H H'∧(∀k,k<i→m7 (p.lp.rel k) (cj p.lp.n (p.lp.a k) (fn x)-p.lp.b k*t))∧i≤p.rows.length) 0 (⟨bH,(fun j h=>by omega),Nat.zero_le _⟩) an ?_;rintro i H2 ⟨bh,aab,sk⟩;refine ab ?_;refine vr 1 ?_;refine aa [1,5,32,33,34,35] ?_;refine al ?_;refine aB rfl (fun hb=> ?_) (fun hb=> ?_)
  ·
   have aQ:i<p.rows.length:=by simpa using hb
   obtain⟨r,hr⟩:∃r,p.rows[i]? = some r:=⟨_,List.getElem?_eq_getElem aQ⟩;obtain⟨A0,c0,f,A1,m1,c1,A2,m2,c2,fS,jV⟩:=fO i r hr;have kT:cH H (.agg #[.bool f,.slice A1 m1 c1,.slice A2 m2 c2]) r.2.2 N:=eV.bound fS;have Kc:=kT.size;have vu:=bg.row i r hr;have ks:r.1.length=p.free.length:=vu.1;have pZ:aR (ck N) 3 H (.slice A0 r.1.length c0) r.1:=eV.KR fS
   have hrM:∀q,q∈r.1→aG q≤M:=fun q hq=>by
    have h9:=eV.size fS q hq;omega
   have E7:p.row i=r:=Prg.m8 hr;refine au ?_;refine ag [1,5,32,33,34] rfl ?_;refine al ?_;refine aC ?_;refine ab ?_;refine bR (vs:=[.slice A0 r.1.length c0,.int .i64 r.2.1,.bool f,.slice A1 m1 c1,.slice A2 m2 c2]) ae rfl rfl rfl rfl (eK.le bh) rfl (by decide) jV (by omega) (by omega) fun _=> ?_;refine bt kR rfl ?_;obtain⟨ti,aj,ak⟩:=mq;refine aJ (.inl ⟨rfl,rfl⟩) rfl rfl rfl aj ak rfl rfl rfl ?_;refine aa [1,5,10,32,33,34] ?_;refine bJ .bF [0,1,3,2,4,5,6] follows (by kernel_rfl) ?_;refine vr 3 ?_;refine aO rfl rfl (vG (kT.le bh) (by omega)) (fun _ _ h=>by first | exact h.le | exact h.1) ?_;rintro _ H3 ⟨dC,vs3,rfl,iR⟩;obtain⟨n3,d3,b3,rfl⟩:=iR.cells;refine aO rfl rfl (vM (N:=M) iR ((ht.le bh).le dC) (by omega) (by omega) (by omega)) (fun _ _ h=>by first | exact h.le | exact h.1) ?_;rintro _ H4 ⟨cE,zZ,rfl,aac⟩;obtain⟨n4,d4,b4,rfl⟩:=aac.cells;have alx:=pc r.2.2 t;refine bt dM rfl ?_;obtain⟨ti,aj,ak⟩:=bV;refine aJ (.inl ⟨rfl,rfl⟩) rfl rfl rfl aj ak rfl rfl rfl ?_;refine aa [1,5,10,11,32,33,34] ?_;refine bJ .bF [0,1,2,3,5,7,4,6,8,9,10] follows (by kernel_rfl) ?_;refine vr 6 ?_;refine aO rfl rfl (ui (pZ.le (ik N) ((bh.trans dC).trans cE)) (by omega) (by omega)) (fun _ _ h=>by first | exact h.le | exact h.1) ?_
   rintro v5 H5 ⟨dy,L4⟩;refine aO rfl rfl (JC (s:=M) L4 (hx.le fJ (((bh.trans dC).trans cE).trans dy)) (by omega) hrM Ez (by rw[vu.1];have h9:((p.free.length:Int)+2)*(2*M+2)≤402*(2*M+2):=Int.mul_le_mul_of_nonneg_right (by omega) (by omega);omega)) (fun _ _ h=>by first | exact h.le | exact h.1) ?_;rintro _ H6 ⟨jr,vs6,rfl,yh⟩;obtain⟨n6,d6,b6,rfl⟩:=yh.cells;have LM:=yD (M:=M) r.1.length (fn r.1) (fn x) (fun j hj=>hrM _ (qw hj)) (fun j hj=>Ez _ (qw (by omega)));have aly:((r.1.length*(2*M+2)+1:Nat):Int)≤1040000000801:=(by rw[vu.1];have h9:p.free.length*(2*M+2)≤400*(2*M+2):=Nat.mul_le_mul_right _ gL;omega);refine aO rfl rfl (ug (N:=max (r.1.length*(2*M+2)+1) (M+1)) yh ((aac.le dy).le jr) (by omega) (by omega) (by omega)) (fun _ _ h=>by first | exact h.le | exact h.1) ?_;rintro _ H7 ⟨kK,YN,rfl,HZ⟩;obtain⟨n7,d7,b7,rfl⟩:=HZ.cells;refine aO rfl rfl (ajK HZ (by have h9:=om (cj r.1.length (fn r.1) (fn x)) (r.2.2*t);omega) vu.2) (fun _ _ h=>by first | exact h.le | exact h.1) ?_;rintro _ H8 ⟨kL,b8,rfl,hb8⟩;have dX:=(((((bh.trans dC).trans cE).trans dy).trans jr).trans kK).trans kL
   have oL:m7 r.2.1 (cj r.1.length (fn r.1) (fn x)-r.2.2*t)↔m7 (p.lp.rel i) (cj p.lp.n (p.lp.a i) (fn x)-p.lp.b i*t):=by show _↔m7 (p.row i).2.1 (cj p.free.length (fun j=>fn (p.row i).1 j) (fn x)-(p.row i).2.2*t);rw[E7,vu.1]
   refine vr 1 ?_;refine aa [1,5,32,33,34,53] ?_;refine aB rfl (fun hb=> ?_) (fun hb=> ?_)
   ·
    have uZ:¬m7 (p.lp.rel i) (cj p.lp.n (p.lp.a i) (fn x)-p.lp.b i*t):=fun h=>by have h9:=hb8.2 (oL.2 h);rw[h9]at hb;simp at hb
    refine ab ?_;refine vr 1 ?_;refine aa [6] ?_;refine az ⟨.inr rfl,_,.tmp rfl (.nil),?_⟩;exact⟨dX,false,rfl,⟨(fun h=>by cases h),(fun h=>absurd (h.2 i aQ) uZ)⟩⟩
   ·
    have uZ:m7 (p.lp.rel i) (cj p.lp.n (p.lp.a i) (fn x)-p.lp.b i*t):=oL.1 (hb8.1 (by simpa using hb));refine au ?_;refine ag [1,5,32,33,34] rfl ?_;refine av rfl ?_;refine aD rfl rfl ⟨by omega,by omega⟩ ?_;refine vr 1 ?_;refine aq ?_;exact⟨i+1,by omega,an,dX,(fun k hk=>by by_cases h9:k<i;exact aab k h9;(obtain rfl:k=i:=by omega);exact uZ),by omega⟩
  ·
   have hb:p.rows.length≤i:=by simpa using hb
   refine aU ?_;refine ag [] rfl ?_;refine ab ?_;refine vr 1 ?_;refine aa [6] ?_;refine az ⟨.inr rfl,_,.tmp rfl (.nil),?_⟩;exact⟨bh,true,rfl,⟨(fun _=>⟨fT,fun k hk=>aab k (Nat.lt_of_lt_of_le hk hb)⟩),fun _=>rfl⟩⟩
end Go.ar
