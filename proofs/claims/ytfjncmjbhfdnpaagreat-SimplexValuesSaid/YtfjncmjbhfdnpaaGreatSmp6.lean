/- Walks over package simplex, simplex.go, part 6: CheckOptimal, CheckUnbounded. -/
import Derived.Test.YtfjncmjbhfdnpaaGreatA15
import Derived.Test.YtfjncmjbhfdnpaaGreatSmp5
set_option linter.unusedVariables false
namespace Go.ar
open Go.Proofs Num Lp
theorem Ib{H:Heap}{v xv:Value}{p:Prg}{x:List Rat}{N:Nat}(hp:eJ N H v p)(hx:aR (ck N) 3 H xv x)(me:(x.length:Int)≤1099511627776)(hN:N≤1299999998)(hf:zP p x):Fn Tryz.prog 88 #[v,xv] H (fun v H'=>Heap.le H H'∧v = .bool true):=
 (aad hp hx me hN).mono fun v H' ⟨h1,b,h2,h3⟩=>⟨h1,by rw[h2,h3.2 hf]⟩
theorem aak{H:Heap}{v xv:Value}{p:Prg}{x:List Rat}{N:Nat}(hp:eJ N H v p)(hx:aR (ck N) 3 H xv x)(me:(x.length:Int)≤1099511627776)(hN:N≤1299999998)(hf:¬zP p x):Fn Tryz.prog 88 #[v,xv] H (fun v H'=>Heap.le H H'∧v = .bool false):=
 (aad hp hx me hN).mono fun v H' ⟨h1,b,h2,h3⟩=>⟨h1,by
  cases b with
  | false=>exact h2
  | true=>exact absurd (h3.1 rfl) hf⟩
theorem aal{H:Heap}{v cv xv yv:Value}{p:Prg}{c x y:List Rat}{N:Nat}(hp:eJ N H v p)(hc:aR (ck N) 3 H cv c)(hx:aR (ck N) 3 H xv x)(hy:aR (ck N) 3 H yv y)(me:(x.length:Int)≤1099511627776)(hN:N≤400000000):
 Fn Tryz.prog 118 #[v,cv,xv,yv] H (fun v H'=>Heap.le H H'∧∃b,v = .bool b∧(b=true↔E2 p c x y)):=by
 obtain⟨fv,fN,rfl,eo,ep⟩:=id hp
 obtain⟨Af,cf,xf,rfl,gZ,hO⟩:=eo.one
 obtain⟨Ar,cr,xr,rfl,eK,fO⟩:=ep.row
 obtain⟨Ay,cy,xy,rfl,BN,BO⟩:=hy.rat
 obtain⟨Ac,cc,xc,rfl,Sk,Sm⟩:=hc.rat
 obtain⟨Ax,cx,xx,rfl,HX,HY⟩:=hx.rat;refine aZ (args:=[_,_,_,_]) Tryz.func118 rfl rfl Tryz.ntmps118 rfl rfl fun w0=> ?_;refine ag [0,1,2,3] rfl ?_;refine ab ?_;refine bS rfl rfl ?_;refine vr 1 ?_;refine aa [1,2,3,4] ?_;refine al ?_
 by_cases hf:zP p x
 ·
  skip
  by_cases dA:c.length=p.free.length
  ·
   skip
   refine ab ?_;refine vr 2 ?_;refine aw rfl rfl (Ib hp hx me (by omega) hf) ?_;rintro v1 H1 ⟨bH,rfl⟩;refine vr 7 ?_;refine aA false rfl rfl (mV (by omega)) ?_;refine vr 4 ?_;refine aw rfl rfl (aae (hp.le bH) hf.ok (hy.le (ik N) bH) (by omega)) ?_;rintro v2 H2 ⟨bh,b2,rfl,cS⟩;refine vr 2 ?_;refine aa [1,2,3,4,31] ?_;refine aB rfl (fun hb=> ?_) (fun hb=> ?_)
   ·
    have hb:¬(y.length=p.rows.length∧p.lp.Signed (fn y)):=fun h=>by have h9:=cS.2 h;rw[h9]at hb;simp at hb
    refine ab ?_;refine vr 1 ?_;refine aa [8] ?_;refine az ⟨.inr rfl,_,.tmp rfl (.nil),?_⟩;exact⟨bH.trans bh,false,rfl,⟨(fun h=>by cases h),(fun h=>absurd ⟨h.NY,h.cert.signed⟩ hb)⟩⟩
   ·
    have jo:=cS.1 (by simpa using hb);have bg:=hf.ok;have gL:=bg.gM;have uL:=bg.rows;obtain⟨jz,j0⟩:=aaj hp bg hy jo.1;have iX:=bH.trans bh;refine au ?_;refine ag [1,2,3,4] rfl ?_;refine ab ?_;refine vr 2 ?_;refine aw rfl rfl (aag (hp.le iX) bg (hy.le (ik N) iX) jo.1 (by omega)) ?_;rintro v3 H3 ⟨dC,sv,ns,rfl,p3,rj⟩;obtain⟨n3,d3,b3,rfl⟩:=rj.cells;obtain⟨As,cs,xs,rfl,qV,wY⟩:=p3.num;rw[aW];refine vr 3 ?_;refine bt dM rfl ?_;refine vr 1 ?_;obtain⟨ti,aj,ak⟩:=bV;refine aJ (.inl ⟨rfl,rfl⟩) rfl rfl rfl aj ak rfl rfl rfl ?_;refine aa [1,2,4,9,10] ?_;refine al ?_;refine ab ?_;refine vr 4 ?_;refine aa [1,2,9,10,39,40,41] ?_;refine aC ?_;refine fZ (fun(i:Nat)=>p.free.length-i) (fun(i:Nat)=>put (put (put (put (put (put (put (emp) 1 (.val (.slice Ac c.length cc))) 2 (.val (.slice Ax x.length cx))) 9 (.val (.slice As p.free.length cs))) 10 (.box [.int .i64 n3,.int .i64 d3,.pointer b3])) 39 (.val (.slice Af p.free.length cf))) 40 (.val (.int .i64 (p.free.length:Int)))) 41 (.val (.int .i64 (i:Int)))) (fun(i:Nat) H'=>Heap.le H3 H'∧(∀k,k<i→0≤fn c k-p.lp.fD (fn y) k∧(p.lp.free k=true→fn c k-p.lp.fD (fn y) k≤0))∧i≤p.free.length) 0 (⟨.refl _,(fun j h=>by omega),Nat.zero_le _⟩) an ?_;rintro i H4 ⟨cE,fT,hi⟩
    have pL:=(iX.trans dC).trans cE;refine ab ?_;refine vr 1 ?_;refine aa [1,2,9,10,39,40,41,42] ?_;refine al ?_;refine aB rfl (fun hb=> ?_) (fun hb=> ?_)
    ·
     have gg:i<p.free.length:=by simpa using hb
     obtain⟨fb,j5⟩:∃fb,p.free[i]? = some fb:=⟨_,List.getElem?_eq_getElem gg⟩;obtain⟨uf,lG,AW⟩:=hO i fb j5
     cases AW
     have nH:p.lp.free i=fb:=Prg.ue j5;obtain⟨n1,d1,b1,cK,eD⟩:=wY i _ (di gg);have hzi:=jz i;obtain⟨q,dL⟩:∃q,c[i]? = some q:=⟨_,List.getElem?_eq_getElem (by omega)⟩;obtain⟨g,B1,k1,e1,B2,k2,e2,tm,wg⟩:=Sm i q dL;have gp:fn c i=q:=jC dL;have uD:=hc.jF q (List.mem_of_getElem? dL);refine au ?_;refine ag [1,2,9,10,39,40,41] rfl ?_;refine al ?_;refine aC ?_;refine ab ?_;refine vr 1 ?_;refine aM ae rfl rfl rfl rfl rfl (gZ.le pL) (by rw[Int.toNat_natCast];exact lG) (by omega) (by omega) fun _=> ?_;refine vr 2 ?_;refine aa [1,2,9,10,11,12,39,40,41] ?_;refine bJ .bF [0,1,2,3,5,6,7,8,4,9,10,11] follows (by kernel_rfl) ?_;refine vr 2 ?_;refine bR (vs:=[.bool g,.slice B1 k1 e1,.slice B2 k2 e2]) ae rfl rfl rfl rfl (Sk.le pL) rfl (by decide) wg (by omega) (by omega) fun _=> ?_;refine vr 2 ?_;refine bR (vs:=[.int .i64 n1,.int .i64 d1,.pointer b1]) ae rfl rfl rfl rfl (qV.le cE) rfl (by decide) eD (by omega) (by omega) fun _=> ?_;refine aO rfl rfl (vG (tm.le pL) (by omega)) (fun _ _ h=>by first | exact h.le | exact h.1) ?_;rintro _ H5 ⟨dy,vs5,rfl,J6⟩;obtain⟨n5,d5,b5,rfl⟩:=J6.cells;refine aO rfl rfl (ug (N:=800*(2*(N+2)+2)+1) J6 (cK.le (cE.trans dy)) (by omega) hzi (by omega)) (fun _ _ h=>by first | exact h.le | exact h.1) ?_
     rintro _ H6 ⟨jr,vs6,rfl,yh⟩;obtain⟨n6,d6,b6,rfl⟩:=yh.cells;have Sn:=om q (p.lp.fD (fn y) i);rw[←gp]at yh Sn uD;refine aO rfl rfl (iT yh (by omega)) (fun _ _ h=>by first | exact h.le | exact h.1) ?_;rintro v7 H7 ⟨kK,rfl⟩;refine vr 1 ?_;refine aa [1,2,9,10,12,13,39,40,41] ?_
     by_cases hs:fo (fn c i-p.lp.fD (fn y) i)<0
     ·
      skip
      refine ab ?_;refine vr 1 ?_;refine aA true rfl rfl (iz hs) ?_;refine vr 7 ?_;refine aa [1,2,9,10,39,40,41,65] ?_;refine cD rfl ?_;refine ab ?_;refine vr 1 ?_;refine aa [8] ?_;refine az ⟨.inr rfl,_,.tmp rfl (.nil),?_⟩;exact⟨((pL.trans dy).trans jr).trans kK,false,rfl,⟨(fun h=>by cases h),(fun h=>by have h9:=qe.2 (h.cert.gM i gg).1;omega)⟩⟩
     ·
      have aam:=qe.1 (show 0≤fo (fn c i-p.lp.fD (fn y) i) by omega)
      cases fb
      ·
       skip
       refine ab ?_;refine vr 1 ?_;refine aA false rfl rfl (fQ (by omega)) ?_;refine vr 7 ?_;refine aa [1,2,9,10,39,40,41,65] ?_;refine cU rfl ?_;refine au ?_;refine ag [1,2,9,10,39,40,41] rfl ?_;refine av rfl ?_;refine aD rfl rfl ⟨by omega,by omega⟩ ?_;refine vr 1 ?_;refine aq ?_;exact⟨i+1,by omega,an,((cE.trans dy).trans jr).trans kK,(fun k hk=>by by_cases h9:k<i;exact fT k h9;(obtain rfl:k=i:=by omega);exact⟨aam,fun e=>by rw[nH]at e;cases e⟩),by omega⟩
      ·
       skip
       by_cases jn:0<fo (fn c i-p.lp.fD (fn y) i)
       ·
        skip
        refine ab ?_;refine vr 1 ?_;refine aA false rfl rfl (fQ (by omega)) ?_;refine vr 4 ?_;refine aA true rfl rfl (kS jn) ?_;refine vr 2 ?_;refine aa [1,2,9,10,39,40,41,65] ?_;refine cD rfl ?_;refine ab ?_;refine vr 1 ?_;refine aa [8] ?_;refine az ⟨.inr rfl,_,.tmp rfl (.nil),?_⟩;exact⟨((pL.trans dy).trans jr).trans kK,false,rfl,⟨(fun h=>by cases h),(fun h=>by have h9:=ur.2 ((h.cert.gM i gg).2 nH);omega)⟩⟩
       ·
        skip
        refine ab ?_;refine vr 1 ?_;refine aA false rfl rfl (fQ (by omega)) ?_;refine vr 4 ?_;refine aA false rfl rfl (gA (by omega)) ?_;refine vr 2 ?_;refine aa [1,2,9,10,39,40,41,65] ?_;refine cU rfl ?_;refine au ?_;refine ag [1,2,9,10,39,40,41] rfl ?_;refine av rfl ?_;refine aD rfl rfl ⟨by omega,by omega⟩ ?_;refine vr 1 ?_;refine aq ?_;exact⟨i+1,by omega,an,((cE.trans dy).trans jr).trans kK,(fun k hk=>by by_cases h9:k<i;exact fT k h9;(obtain rfl:k=i:=by omega);exact⟨aam,fun _=>ur.1 (by omega)⟩),by omega⟩
    ·
     have hb:p.free.length≤i:=by simpa using hb
     have cB:=hf.len;refine aU ?_;refine ag [1,2,10] rfl ?_;refine bJ .bF [0,1,3,2,4,5,6,7,8,9] follows (by kernel_rfl) ?_;refine vr 3 ?_;refine aO rfl rfl (ui (hc.le (ik N) pL) (by omega) (by omega)) (fun _ _ h=>by first | exact h.le | exact h.1) ?_;rintro v8 H8 ⟨kL,yq⟩;refine aO rfl rfl (ui (hx.le (ik N) (pL.trans kL)) (by omega) (by omega)) (fun _ _ h=>by first | exact h.le | exact h.1) ?_;rintro v9 H9 ⟨dX,nr⟩;refine aO rfl rfl (JC (s:=N+2) (yq.le fJ dX) nr (by omega) hc.jF hx.jF (by rw[dA];have h9:((p.free.length:Int)+2)*(2*((N+2:Nat):Int)+2)≤402*(2*((N+2:Nat):Int)+2):=Int.mul_le_mul_of_nonneg_right (by omega) (by omega);omega)) (fun _ _ h=>by first | exact h.le | exact h.1) ?_;rintro _ pj ⟨oE,ajR,rfl,Ic⟩;obtain⟨Hr,d10,BG,rfl⟩:=Ic.cells;have ajS:=yD (M:=N+2) c.length (fn c) (fn x) (fun j hj=>hc.jF _ (qw hj)) (fun j hj=>hx.jF _ (qw (by omega)));have ajT:c.length*(2*(N+2)+2)≤400*(2*(N+2)+2):=Nat.mul_le_mul_right _ (by omega);refine aO rfl rfl (ug (N:=800*(2*(N+2)+2)+1) (rj.le (((cE.trans kL).trans dX).trans oE)) Ic j0 (by omega) (by omega)) (fun _ _ h=>by first | exact h.le | exact h.1) ?_;rintro _ im ⟨rL,ajU,rfl,Ie⟩;obtain⟨oM,d11,b11,rfl⟩:=Ie.cells;have Sn:=om (p.lp.ou (fn y)) (cj c.length (fn c) (fn x))
     refine aO rfl rfl (iT Ie (by omega)) (fun _ _ h=>by first | exact h.le | exact h.1) ?_;rintro v12 cV ⟨ajV,rfl⟩;refine vr 2 ?_;refine aa [8] ?_;refine az ⟨.inr rfl,_,.tmp rfl (.nil),?_⟩;exact⟨((((pL.trans kL).trans dX).trans oE).trans rL).trans ajV,_,rfl,by simp only[beq_iff_eq,lA];rw[dA];exact⟨fun h=>⟨hf,dA,jo.1,⟨hf.meets,jo.2,fun j hj=>fT j (Nat.lt_of_lt_of_le hj hb),(show p.lp.ou (fn y)=cj p.free.length (fn c) (fn x) by grind)⟩⟩,fun h=>by have h9:p.lp.ou (fn y)=cj p.free.length (fn c) (fn x):=h.cert.eq;grind⟩⟩
  ·
   skip
   refine ab ?_;refine vr 2 ?_;refine aw rfl rfl (Ib hp hx me (by omega) hf) ?_;rintro v1 H1 ⟨bH,rfl⟩;refine vr 7 ?_;refine aA true rfl rfl (my (by omega)) ?_;refine vr 7 ?_;refine aa [1,2,3,4,31] ?_;refine cD rfl ?_;refine ab ?_;refine vr 1 ?_;refine aa [8] ?_;refine az ⟨.inr rfl,_,.tmp rfl (.nil),?_⟩;exact⟨bH,false,rfl,⟨(fun h=>by cases h),(fun h=>absurd h.E3 dA)⟩⟩
 ·
  skip
  refine ab ?_;refine vr 2 ?_;refine aw rfl rfl (aak hp hx me (by omega) hf) ?_;rintro v1 H1 ⟨bH,rfl⟩;refine vr 15 ?_;refine aa [1,2,3,4,31] ?_;refine cD rfl ?_;refine ab ?_;refine vr 1 ?_;refine aa [8] ?_;refine az ⟨.inr rfl,_,.tmp rfl (.nil),?_⟩;exact⟨bH,false,rfl,⟨(fun h=>by cases h),(fun h=>absurd h.eF hf)⟩⟩
end Go.ar
