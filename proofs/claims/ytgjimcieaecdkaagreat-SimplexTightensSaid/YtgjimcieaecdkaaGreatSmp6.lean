/- Walks over package simplex, simplex.go, part 6: CheckOptimal, CheckUnbounded. -/
import Derived.Test.YtgjimcieaecdkaaGreatA10
import Derived.Test.YtgjimcieaecdkaaGreatSmp5
set_option linter.unusedVariables false
namespace Go.au
open Go.Proofs Num Lp
theorem AV{H:Heap}{v xv:Value}{p:Prg}{x:List Rat}{N:Nat}(hp:dN N H v p)(hx:aM (ca N) 3 H xv x)(jq:(x.length:Int)≤1099511627776)(hN:N≤1299999998)(hf:tL p x):Fn Tryz.prog 13 #[v,xv] H (fun v H'=>Heap.le H H'∧v = .bool true):=
 (Pn hp hx jq hN).mono fun v H' ⟨h1,b,h2,h3⟩=>⟨h1,by rw[h2,h3.2 hf]⟩
theorem Py{H:Heap}{v xv:Value}{p:Prg}{x:List Rat}{N:Nat}(hp:dN N H v p)(hx:aM (ca N) 3 H xv x)(jq:(x.length:Int)≤1099511627776)(hN:N≤1299999998)(hf:¬tL p x):Fn Tryz.prog 13 #[v,xv] H (fun v H'=>Heap.le H H'∧v = .bool false):=
 (Pn hp hx jq hN).mono fun v H' ⟨h1,b,h2,h3⟩=>⟨h1,by
  cases b with
  | false=>exact h2
  | true=>exact absurd (h3.1 rfl) hf⟩
theorem Pz{H:Heap}{v cv xv yv:Value}{p:Prg}{c x y:List Rat}{N:Nat}(hp:dN N H v p)(hc:aM (ca N) 3 H cv c)(hx:aM (ca N) 3 H xv x)(hy:aM (ca N) 3 H yv y)(jq:(x.length:Int)≤1099511627776)(hN:N≤400000000):
 Fn Tryz.prog 53 #[v,cv,xv,yv] H (fun v H'=>Heap.le H H'∧∃b,v = .bool b∧(b=true↔yw p c x y)):=by
 obtain⟨fv,j8,rfl,eu,ew⟩:=id hp
 obtain⟨Af,cf,xf,rfl,iR,iS⟩:=eu.one
 obtain⟨Ar,cr,xr,rfl,fy,eW⟩:=ew.row
 obtain⟨Ay,cy,xy,rfl,uX,uY⟩:=hy.rat
 obtain⟨Ac,cc,xc,rfl,IY,IZ⟩:=hc.rat
 obtain⟨Ax,cx,xx,rfl,AR,AS⟩:=hx.rat;refine aU (args:=[_,_,_,_]) Tryz.func53 rfl rfl Tryz.ntmps53 rfl rfl fun w0=> ?_;refine ah [0,1,2,3] rfl ?_;refine ae (bR rfl rfl (aa 1 rfl (ab [1,2,3,4] ?_)));refine ao ?_
 by_cases hf:tL p x
 ·
  skip
  by_cases dJ:c.length=p.free.length
  ·
   skip
   refine ae (aa 2 rfl (aq rfl rfl (AV hp hx jq (by omega) hf) ?_));rintro v1 H1 ⟨bC,rfl⟩;refine aa 7 rfl (ax false rfl rfl (la (by omega)) (aa 4 rfl (aq rfl rfl (Po (hp.le bC) hf.ok (hy.le (fu N) bC) (by omega)) ?_)));rintro v2 H2 ⟨aW,b2,rfl,cD⟩;refine aa 2 rfl (ab [1,2,3,4,31] ?_);refine az rfl (fun hb=> ?_) (fun hb=> ?_)
   ·
    have hb:¬(y.length=p.rows.length∧p.lp.Signed (fn y)):=fun h=>by have h9:=cD.2 h;rw[h9]at hb;simp at hb
    refine ae (aa 1 rfl (ab [8] ?_));refine ar ⟨.inr rfl,_,.tmp rfl (.nil),?_⟩;exact⟨bC.trans aW,false,rfl,⟨(fun h=>by cases h),(fun h=>absurd ⟨h.Ga,h.cert.signed⟩ hb)⟩⟩
   have ga:=cD.1 (by simpa using hb);have bx:=hf.ok;have eT:=bx.eZ;have qD:=bx.rows;obtain⟨jX,g8⟩:=Pw hp bx hy ga.1;have ng:=bC.trans aW;refine aw (ah [1,2,3,4] rfl ?_);refine ae (aa 2 rfl (aq rfl rfl (Pq (hp.le ng) bx (hy.le (fu N) ng) ga.1 (by omega)) ?_));rintro v3 H3 ⟨dH,sv,ns,rfl,lS,m9⟩;obtain⟨n3,d3,b3,rfl⟩:=m9.cells;obtain⟨As,cs,xs,rfl,mR,q6⟩:=lS.num;rw[bV];refine aa 3 rfl (bG cN rfl (vr 1 ?_));obtain⟨ti,aj,ak⟩:=a9;refine aO (.inl ⟨rfl,rfl⟩) rfl rfl rfl aj ak rfl rfl rfl (ab [1,2,4,9,10] ?_);refine ao (ae (aa 4 rfl (ab [1,2,9,10,39,40,41] ?_)));refine aD (gm (fun(i:Nat)=>p.free.length-i) (fun(i:Nat)=>put (put (put (put (put (put (put (emp) 1 (.val (.slice Ac c.length cc))) 2 (.val (.slice Ax x.length cx))) 9 (.val (.slice As p.free.length cs))) 10 (.box [.int .i64 n3,.int .i64 d3,.pointer b3])) 39 (.val (.slice Af p.free.length cf))) 40 (.val (.int .i64 (p.free.length:Int)))) 41 (.val (.int .i64 (i:Int)))) (fun(i:Nat) H'=>Heap.le H3 H'∧(∀k,k<i→0≤fn c k-p.lp.dP (fn y) k∧(p.lp.free k=true→fn c k-p.lp.dP (fn y) k≤0))∧i≤p.free.length) 0 (⟨.refl _,(fun j h=>by omega),Nat.zero_le _⟩) av ?_);rintro i H4 ⟨dr,ec,hi⟩
   have mz:=(ng.trans dH).trans dr;refine ae (aa 1 rfl (ab [1,2,9,10,39,40,41,42] ?_));refine ao (az rfl (fun hb=> ?_) (fun hb=> ?_))
   ·
    have eP:i<p.free.length:=by simpa using hb
    obtain⟨fb,gE⟩:∃fb,p.free[i]? = some fb:=⟨_,List.getElem?_eq_getElem eP⟩;obtain⟨uf,uK,uL⟩:=iS i fb gE
    cases uL
    have kg:p.lp.free i=fb:=Prg.CB gE;obtain⟨n1,d1,b1,cM,di⟩:=q6 i _ (dQ eP);have Px:=jX i;obtain⟨q,dI⟩:∃q,c[i]? = some q:=⟨_,List.getElem?_eq_getElem (by omega)⟩;obtain⟨g,B1,k1,e1,B2,k2,e2,qJ,uW⟩:=IZ i q dI;have ia:fn c i=q:=jl dI;have po:=hc.gT q (List.mem_of_getElem? dI);refine aw (ah [1,2,9,10,39,40,41] rfl ?_);refine ao (aD (ae (aa 1 rfl (a5 ag rfl rfl rfl rfl rfl (iR.le mz) (by rw[Int.toNat_natCast];exact uK) (by omega) (by omega) fun _=> ?_))));refine aa 2 rfl (ab [1,2,9,10,11,12,39,40,41] ?_);refine bT .bN [0,1,2,3,5,6,7,8,4,9,10,11] follows (by kernel_rfl) ?_;refine aa 2 rfl (cQ (vs:=[.bool g,.slice B1 k1 e1,.slice B2 k2 e2]) ag rfl rfl rfl rfl (IY.le mz) rfl (by decide) uW (by omega) (by omega) fun _=>(aa 2 rfl (cQ (vs:=[.int .i64 n1,.int .i64 d1,.pointer b1]) ag rfl rfl rfl rfl (mR.le dr) rfl (by decide) di (by omega) (by omega) fun _=>(aI rfl rfl (p9 (qJ.le mz) (by omega)) (fun _ _ h=>by first | exact h.le | exact h.1) ?_))));rintro _ H5 ⟨cU,vs5,rfl,Dc⟩;obtain⟨n5,d5,b5,rfl⟩:=Dc.cells;refine aI rfl rfl (o3 (N:=800*(2*(N+2)+2)+1) Dc (cM.le (dr.trans cU)) (by omega) Px (by omega)) (fun _ _ h=>by first | exact h.le | exact h.1) ?_
    rintro _ H6 ⟨gg,ZG,rfl,rN⟩;obtain⟨n6,d6,b6,rfl⟩:=rN.cells;have I0:=l5 q (p.lp.dP (fn y) i);rw[←ia]at rN I0 po;refine aI rfl rfl (fq rN (by omega)) (fun _ _ h=>by first | exact h.le | exact h.1) ?_;rintro v7 H7 ⟨gw,rfl⟩;refine aa 1 rfl (ab [1,2,9,10,12,13,39,40,41] ?_)
    by_cases hs:eE (fn c i-p.lp.dP (fn y) i)<0
    ·
     skip
     refine ae (aa 1 rfl (ax true rfl rfl (mP hs) (aa 7 rfl (ab [1,2,9,10,39,40,41,65] ?_))));refine cI rfl (ae (aa 1 rfl (ab [8] ?_)));refine ar ⟨.inr rfl,_,.tmp rfl (.nil),?_⟩;exact⟨((mz.trans cU).trans gg).trans gw,false,rfl,⟨(fun h=>by cases h),(fun h=>by have h9:=mc.2 (h.cert.eZ i eP).1;omega)⟩⟩
    have PA:=mc.1 (show 0≤eE (fn c i-p.lp.dP (fn y) i) by omega)
    cases fb
    ·
     skip
     refine ae (aa 1 rfl (ax false rfl rfl (jx (by omega)) (aa 7 rfl (ab [1,2,9,10,39,40,41,65] ?_))));refine cP rfl (aw (ah [1,2,9,10,39,40,41] rfl ?_));refine aB rfl (aJ rfl rfl ⟨by omega,by omega⟩ (aa 1 rfl (ay ?_)));exact⟨i+1,by omega,av,((dr.trans cU).trans gg).trans gw,(fun k hk=>by by_cases h9:k<i;exact ec k h9;(obtain rfl:k=i:=by omega);exact⟨PA,fun e=>by rw[kg]at e;cases e⟩),by omega⟩
    skip
    by_cases fN:0<eE (fn c i-p.lp.dP (fn y) i)
    ·
     skip
     refine ae (aa 1 rfl (ax false rfl rfl (jx (by omega)) (aa 4 rfl (ax true rfl rfl (jU fN) (aa 2 rfl (ab [1,2,9,10,39,40,41,65] ?_))))));refine cI rfl (ae (aa 1 rfl (ab [8] ?_)));refine ar ⟨.inr rfl,_,.tmp rfl (.nil),?_⟩;exact⟨((mz.trans cU).trans gg).trans gw,false,rfl,⟨(fun h=>by cases h),(fun h=>by have h9:=pa.2 ((h.cert.eZ i eP).2 kg);omega)⟩⟩
    skip
    refine ae (aa 1 rfl (ax false rfl rfl (jx (by omega)) (aa 4 rfl (ax false rfl rfl (gD (by omega)) (aa 2 rfl (ab [1,2,9,10,39,40,41,65] ?_))))));refine cP rfl (aw (ah [1,2,9,10,39,40,41] rfl ?_));refine aB rfl (aJ rfl rfl ⟨by omega,by omega⟩ (aa 1 rfl (ay ?_)));exact⟨i+1,by omega,av,((dr.trans cU).trans gg).trans gw,(fun k hk=>by by_cases h9:k<i;exact ec k h9;(obtain rfl:k=i:=by omega);exact⟨PA,fun _=>pa.1 (by omega)⟩),by omega⟩
   have hb:p.free.length≤i:=by simpa using hb
   have ck:=hf.len;refine bA (ah [1,2,10] rfl ?_);refine bT .bN [0,1,3,2,4,5,6,7,8,9] follows (by kernel_rfl) ?_;refine aa 3 rfl (aI rfl rfl (o4 (hc.le (fu N) mz) (by omega) (by omega)) (fun _ _ h=>by first | exact h.le | exact h.1) ?_);rintro v8 H8 ⟨gG,rZ⟩;refine aI rfl rfl (o4 (hx.le (fu N) (mz.trans gG)) (by omega) (by omega)) (fun _ _ h=>by first | exact h.le | exact h.1) ?_;rintro v9 H9 ⟨eo,kN⟩;refine aI rfl rfl (CI (s:=N+2) (rZ.le dT eo) kN (by omega) hc.gT hx.gT (by rw[dJ];have h9:((p.free.length:Int)+2)*(2*((N+2:Nat):Int)+2)≤402*(2*((N+2:Nat):Int)+2):=Int.mul_le_mul_of_nonneg_right (by omega) (by omega);omega)) (fun _ _ h=>by first | exact h.le | exact h.1) ?_;rintro _ uy ⟨pE,ZX,rfl,AW⟩;obtain⟨IW,d10,IX,rfl⟩:=AW.cells;have ZY:=sw (M:=N+2) c.length (fn c) (fn x) (fun j hj=>hc.gT _ (my hj)) (fun j hj=>hx.gT _ (my (by omega)));have ZZ:c.length*(2*(N+2)+2)≤400*(2*(N+2)+2):=Nat.mul_le_mul_right _ (by omega);refine aI rfl rfl (o3 (N:=800*(2*(N+2)+2)+1) (m9.le (((dr.trans gG).trans eo).trans pE)) AW g8 (by omega) (by omega)) (fun _ _ h=>by first | exact h.le | exact h.1) ?_;rintro _ jJ ⟨qG,Z0,rfl,AX⟩;obtain⟨Pt,d11,Pu,rfl⟩:=AX.cells;have I0:=l5 (p.lp.kJ (fn y)) (bL c.length (fn c) (fn x))
   refine aI rfl rfl (fq AX (by omega)) (fun _ _ h=>by first | exact h.le | exact h.1) ?_;rintro zC cS ⟨Z1,rfl⟩;refine aa 2 rfl (ab [8] ?_);refine ar ⟨.inr rfl,_,.tmp rfl (.nil),?_⟩;exact⟨((((mz.trans gG).trans eo).trans pE).trans qG).trans Z1,_,rfl,by simp only[beq_iff_eq,j2];rw[dJ];exact⟨fun h=>⟨hf,dJ,ga.1,⟨hf.meets,ga.2,fun j hj=>ec j (Nat.lt_of_lt_of_le hj hb),(show p.lp.kJ (fn y)=bL p.free.length (fn c) (fn x) by grind)⟩⟩,fun h=>by have h9:p.lp.kJ (fn y)=bL p.free.length (fn c) (fn x):=h.cert.eq;grind⟩⟩
  ·
   skip
   refine ae (aa 2 rfl (aq rfl rfl (AV hp hx jq (by omega) hf) ?_));rintro v1 H1 ⟨bC,rfl⟩;refine aa 7 rfl (ax true rfl rfl (kq (by omega)) (aa 7 rfl (ab [1,2,3,4,31] ?_)));refine cI rfl (ae (aa 1 rfl (ab [8] ?_)));refine ar ⟨.inr rfl,_,.tmp rfl (.nil),?_⟩;exact⟨bC,false,rfl,⟨(fun h=>by cases h),(fun h=>absurd h.yy dJ)⟩⟩
 ·
  skip
  refine ae (aa 2 rfl (aq rfl rfl (Py hp hx jq (by omega) hf) ?_));rintro v1 H1 ⟨bC,rfl⟩;refine aa 15 rfl (ab [1,2,3,4,31] ?_);refine cI rfl (ae (aa 1 rfl (ab [8] ?_)));refine ar ⟨.inr rfl,_,.tmp rfl (.nil),?_⟩;exact⟨bC,false,rfl,⟨(fun h=>by cases h),(fun h=>absurd h.ej hf)⟩⟩
end Go.au
