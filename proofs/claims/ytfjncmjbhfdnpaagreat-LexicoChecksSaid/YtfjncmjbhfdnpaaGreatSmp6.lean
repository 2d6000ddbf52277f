/- Walks over package simplex, simplex.go, part 6: CheckOptimal, CheckUnbounded. -/
import Derived.Test.YtfjncmjbhfdnpaaGreatA10
import Derived.Test.YtfjncmjbhfdnpaaGreatSmp5
set_option linter.unusedVariables false
namespace Go.ay
open Go.Proofs Num Lp
theorem Gc{H:Heap}{v xv:Value}{p:Prg}{x:List Rat}{N:Nat}(hp:cN N H v p)(hx:aC (aS N) 3 H xv x)(oQ:(x.length:Int)≤1099511627776)(hN:N≤1299999998)(hf:qW p x):Fn Tryz.prog 88 #[v,xv] H (fun v H'=>Heap.le H H'∧v = .bool true):=
 (Oj hp hx oQ hN).mono fun v H' ⟨h1,b,h2,h3⟩=>⟨h1,by rw[h2,h3.2 hf]⟩
theorem Wa{H:Heap}{v xv:Value}{p:Prg}{x:List Rat}{N:Nat}(hp:cN N H v p)(hx:aC (aS N) 3 H xv x)(oQ:(x.length:Int)≤1099511627776)(hN:N≤1299999998)(hf:¬qW p x):Fn Tryz.prog 88 #[v,xv] H (fun v H'=>Heap.le H H'∧v = .bool false):=
 (Oj hp hx oQ hN).mono fun v H' ⟨h1,b,h2,h3⟩=>⟨h1,by
  cases b with
  | false=>exact h2
  | true=>exact absurd (h3.1 rfl) hf⟩
theorem ae4{H:Heap}{v cv xv yv:Value}{p:Prg}{c x y:List Rat}{N:Nat}(hp:cN N H v p)(hc:aC (aS N) 3 H cv c)(hx:aC (aS N) 3 H xv x)(hy:aC (aS N) 3 H yv y)(oQ:(x.length:Int)≤1099511627776)(hN:N≤400000000):
 Fn Tryz.prog 118 #[v,cv,xv,yv] H (fun v H'=>Heap.le H H'∧∃b,v = .bool b∧(b=true↔sB p c x y)):=by
 obtain⟨fv,fG,rfl,cB,cF⟩:=id hp
 obtain⟨Af,cf,xf,rfl,ea,eH⟩:=cB.one
 obtain⟨Ar,cr,xr,rfl,cL,du⟩:=cF.row
 obtain⟨Ay,cy,xy,rfl,uM,uN⟩:=hy.rat
 obtain⟨Ac,cc,xc,rfl,Cd,Ce⟩:=hc.rat
 obtain⟨Ax,cx,xx,rfl,mR,mS⟩:=hx.rat;refine aU (args:=[_,_,_,_]) Tryz.func118 rfl rfl Tryz.ntmps118 rfl rfl fun w0=> ?_;refine ag [0,1,2,3] rfl ?_;refine ae ?_;refine bF rfl rfl ?_;refine vr 1 ?_;refine ab [1,2,3,4] ?_;refine al ?_
 by_cases hf:qW p x
 ·
  skip
  by_cases ej:c.length=p.free.length
  ·
   skip
   refine ae ?_;refine vr 2 ?_;refine ar rfl rfl (Gc hp hx oQ (by omega) hf) ?_;rintro v1 H1 ⟨aI,rfl⟩;refine vr 7 ?_;refine ax false rfl rfl (ko (by omega)) ?_;refine vr 4 ?_;refine ar rfl rfl (V2 (hp.le aI) hf.ok (hy.le (a8 N) aI) (by omega)) ?_;rintro v2 H2 ⟨aM,b2,rfl,aW⟩;refine vr 2 ?_;refine ab [1,2,3,4,31] ?_;refine az rfl (fun hb=> ?_) (fun hb=> ?_)
   ·
    have hb:¬(y.length=p.rows.length∧p.lp.Signed (fn y)):=fun h=>by have h9:=aW.2 h;rw[h9]at hb;simp at hb
    refine ae ?_;refine vr 1 ?_;refine ab [8] ?_;refine aq ⟨.inr rfl,_,.tmp rfl (.nil),?_⟩;exact⟨aI.trans aM,false,rfl,⟨(fun h=>by cases h),(fun h=>absurd ⟨h.sC,h.cert.signed⟩ hb)⟩⟩
   ·
    have eC:=aW.1 (by simpa using hb);have aP:=hf.ok;have dY:=aP.dR;have iQ:=aP.rows;obtain⟨jI,iK⟩:=V7 hp aP hy eC.1;have yW:=aI.trans aM;refine aw ?_;refine ag [1,2,3,4] rfl ?_;refine ae ?_;refine vr 2 ?_;refine ar rfl rfl (V4 (hp.le yW) aP (hy.le (a8 N) yW) eC.1 (by omega)) ?_;rintro v3 H3 ⟨a7,sv,ns,rfl,o0,ql⟩;obtain⟨n3,d3,b3,rfl⟩:=ql.cells;obtain⟨As,cs,xs,rfl,pW,vC⟩:=o0.num;rw[cS];refine vr 3 ?_;refine bh dT rfl ?_;refine vr 1 ?_;obtain⟨ti,aj,ak⟩:=bV;refine aG (.inl ⟨rfl,rfl⟩) rfl rfl rfl aj ak rfl rfl rfl ?_;refine ab [1,2,4,9,10] ?_;refine al ?_;refine ae ?_;refine vr 4 ?_;refine ab [1,2,9,10,39,40,41] ?_;refine aD ?_;refine ft (fun(i:Nat)=>p.free.length-i) (fun(i:Nat)=>put (put (put (put (put (put (put (emp) 1 (.val (.slice Ac c.length cc))) 2 (.val (.slice Ax x.length cx))) 9 (.val (.slice As p.free.length cs))) 10 (.box [.int .i64 n3,.int .i64 d3,.pointer b3])) 39 (.val (.slice Af p.free.length cf))) 40 (.val (.int .i64 (p.free.length:Int)))) 41 (.val (.int .i64 (i:Int)))) (fun(i:Nat) H'=>Heap.le H3 H'∧(∀k,k<i→0≤fn c k-p.lp.dQ (fn y) k∧(p.lp.free k=true→fn c k-p.lp.dQ (fn y) k≤0))∧i≤p.free.length) 0 (⟨.refl _,(fun j h=>by omega),Nat.zero_le _⟩) au ?_;rintro i H4 ⟨bE,cO,hi⟩
    have pG:=(yW.trans a7).trans bE;refine ae ?_;refine vr 1 ?_;refine ab [1,2,9,10,39,40,41,42] ?_;refine al ?_;refine az rfl (fun hb=> ?_) (fun hb=> ?_)
    ·
     have gD:i<p.free.length:=by simpa using hb
     obtain⟨fb,fC⟩:∃fb,p.free[i]? = some fb:=⟨_,List.getElem?_eq_getElem gD⟩;obtain⟨uf,y6,y8⟩:=eH i fb fC
     cases y8
     have je:p.lp.free i=fb:=Prg.yq fC;obtain⟨n1,d1,b1,dO,ee⟩:=vC i _ (fp gD);have V8:=jI i;obtain⟨q,dG⟩:∃q,c[i]? = some q:=⟨_,List.getElem?_eq_getElem (by omega)⟩;obtain⟨g,B1,k1,e1,B2,k2,e2,eI,gA⟩:=Ce i q dG;have eO:fn c i=q:=gq dG;have uz:=hc.ec q (List.mem_of_getElem? dG);refine aw ?_;refine ag [1,2,9,10,39,40,41] rfl ?_;refine al ?_;refine aD ?_;refine ae ?_;refine vr 1 ?_;refine a6 af rfl rfl rfl rfl rfl (ea.le pG) (by rw[Int.toNat_natCast];exact y6) (by omega) (by omega) fun _=> ?_;refine vr 2 ?_;refine ab [1,2,9,10,11,12,39,40,41] ?_;refine bL .bn [0,1,2,3,5,6,7,8,4,9,10,11] follows (by kernel_rfl) ?_;refine vr 2 ?_;refine cI (vs:=[.bool g,.slice B1 k1 e1,.slice B2 k2 e2]) af rfl rfl rfl rfl (Cd.le pG) rfl (by decide) gA (by omega) (by omega) fun _=> ?_;refine vr 2 ?_;refine cI (vs:=[.int .i64 n1,.int .i64 d1,.pointer b1]) af rfl rfl rfl rfl (pW.le bE) rfl (by decide) ee (by omega) (by omega) fun _=> ?_;refine aH rfl rfl (vV (eI.le pG) (by omega)) (fun _ _ h=>by first | exact h.le | exact h.1) ?_;rintro _ H5 ⟨cA,vs5,rfl,Im⟩;obtain⟨n5,d5,b5,rfl⟩:=Im.cells;refine aH rfl rfl (tZ (N:=800*(2*(N+2)+2)+1) Im (dO.le (bE.trans cA)) (by omega) V8 (by omega)) (fun _ _ h=>by first | exact h.le | exact h.1) ?_
     rintro _ H6 ⟨fh,vs6,rfl,wA⟩;obtain⟨n6,d6,b6,rfl⟩:=wA.cells;have Wb:=qb q (p.lp.dQ (fn y) i);rw[←eO]at wA Wb uz;refine aH rfl rfl (iN wA (by omega)) (fun _ _ h=>by first | exact h.le | exact h.1) ?_;rintro v7 H7 ⟨gw,rfl⟩;refine vr 1 ?_;refine ab [1,2,9,10,12,13,39,40,41] ?_
     by_cases hs:dF (fn c i-p.lp.dQ (fn y) i)<0
     ·
      skip
      refine ae ?_;refine vr 1 ?_;refine ax true rfl rfl (mA hs) ?_;refine vr 7 ?_;refine ab [1,2,9,10,39,40,41,65] ?_;refine cD rfl ?_;refine ae ?_;refine vr 1 ?_;refine ab [8] ?_;refine aq ⟨.inr rfl,_,.tmp rfl (.nil),?_⟩;exact⟨((pG.trans cA).trans fh).trans gw,false,rfl,⟨(fun h=>by cases h),(fun h=>by have h9:=kV.2 (h.cert.dR i gD).1;omega)⟩⟩
     ·
      have Wc:=kV.1 (show 0≤dF (fn c i-p.lp.dQ (fn y) i) by omega)
      cases fb
      ·
       skip
       refine ae ?_;refine vr 1 ?_;refine ax false rfl rfl (jw (by omega)) ?_;refine vr 7 ?_;refine ab [1,2,9,10,39,40,41,65] ?_;refine dg rfl ?_;refine aw ?_;refine ag [1,2,9,10,39,40,41] rfl ?_;refine aE rfl ?_;refine aN rfl rfl ⟨by omega,by omega⟩ ?_;refine vr 1 ?_;refine aA ?_;exact⟨i+1,by omega,au,((bE.trans cA).trans fh).trans gw,(fun k hk=>by by_cases h9:k<i;exact cO k h9;(obtain rfl:k=i:=by omega);exact⟨Wc,fun e=>by rw[je]at e;cases e⟩),by omega⟩
      ·
       skip
       by_cases eL:0<dF (fn c i-p.lp.dQ (fn y) i)
       ·
        skip
        refine ae ?_;refine vr 1 ?_;refine ax false rfl rfl (jw (by omega)) ?_;refine vr 4 ?_;refine ax true rfl rfl (iG eL) ?_;refine vr 2 ?_;refine ab [1,2,9,10,39,40,41,65] ?_;refine cD rfl ?_;refine ae ?_;refine vr 1 ?_;refine ab [8] ?_;refine aq ⟨.inr rfl,_,.tmp rfl (.nil),?_⟩;exact⟨((pG.trans cA).trans fh).trans gw,false,rfl,⟨(fun h=>by cases h),(fun h=>by have h9:=nC.2 ((h.cert.dR i gD).2 je);omega)⟩⟩
       ·
        skip
        refine ae ?_;refine vr 1 ?_;refine ax false rfl rfl (jw (by omega)) ?_;refine vr 4 ?_;refine ax false rfl rfl (fN (by omega)) ?_;refine vr 2 ?_;refine ab [1,2,9,10,39,40,41,65] ?_;refine dg rfl ?_;refine aw ?_;refine ag [1,2,9,10,39,40,41] rfl ?_;refine aE rfl ?_;refine aN rfl rfl ⟨by omega,by omega⟩ ?_;refine vr 1 ?_;refine aA ?_;exact⟨i+1,by omega,au,((bE.trans cA).trans fh).trans gw,(fun k hk=>by by_cases h9:k<i;exact cO k h9;(obtain rfl:k=i:=by omega);exact⟨Wc,fun _=>nC.1 (by omega)⟩),by omega⟩
    ·
     have hb:p.free.length≤i:=by simpa using hb
     have cj:=hf.len;refine bB ?_;refine ag [1,2,10] rfl ?_;refine bL .bn [0,1,3,2,4,5,6,7,8,9] follows (by kernel_rfl) ?_;refine vr 3 ?_;refine aH rfl rfl (sE (hc.le (a8 N) pG) (by omega) (by omega)) (fun _ _ h=>by first | exact h.le | exact h.1) ?_;rintro v8 H8 ⟨jt,wL⟩;refine aH rfl rfl (sE (hx.le (a8 N) (pG.trans jt)) (by omega) (by omega)) (fun _ _ h=>by first | exact h.le | exact h.1) ?_;rintro v9 H9 ⟨gJ,nF⟩;refine aH rfl rfl (HK (s:=N+2) (wL.le fD gJ) nF (by omega) hc.ec hx.ec (by rw[ej];have h9:((p.free.length:Int)+2)*(2*((N+2:Nat):Int)+2)≤402*(2*((N+2:Nat):Int)+2):=Int.mul_le_mul_of_nonneg_right (by omega) (by omega);omega)) (fun _ _ h=>by first | exact h.le | exact h.1) ?_;rintro _ Et ⟨zb,afO,rfl,Gd⟩;obtain⟨OM,d10,FU,rfl⟩:=Gd.cells;have afP:=sZ (M:=N+2) c.length (fn c) (fn x) (fun j hj=>hc.ec _ (lI hj)) (fun j hj=>hx.ec _ (lI (by omega)));have afQ:c.length*(2*(N+2)+2)≤400*(2*(N+2)+2):=Nat.mul_le_mul_right _ (by omega);refine aH rfl rfl (tZ (N:=800*(2*(N+2)+2)+1) (ql.le (((bE.trans jt).trans gJ).trans zb)) Gd iK (by omega) (by omega)) (fun _ _ h=>by first | exact h.le | exact h.1) ?_;rintro _ oG ⟨Fw,ahk,rfl,Wd⟩;obtain⟨n11,d11,Jz,rfl⟩:=Wd.cells;have Wb:=qb (p.lp.lZ (fn y)) (aX c.length (fn c) (fn x))
     refine aH rfl rfl (iN Wd (by omega)) (fun _ _ h=>by first | exact h.le | exact h.1) ?_;rintro v12 ez ⟨afR,rfl⟩;refine vr 2 ?_;refine ab [8] ?_;refine aq ⟨.inr rfl,_,.tmp rfl (.nil),?_⟩;exact⟨((((pG.trans jt).trans gJ).trans zb).trans Fw).trans afR,_,rfl,by simp only[beq_iff_eq,wo];rw[ej];exact⟨fun h=>⟨hf,ej,eC.1,⟨hf.meets,eC.2,fun j hj=>cO j (Nat.lt_of_lt_of_le hj hb),(show p.lp.lZ (fn y)=aX p.free.length (fn c) (fn x) by grind)⟩⟩,fun h=>by have h9:p.lp.lZ (fn y)=aX p.free.length (fn c) (fn x):=h.cert.eq;grind⟩⟩
  ·
   skip
   refine ae ?_;refine vr 2 ?_;refine ar rfl rfl (Gc hp hx oQ (by omega) hf) ?_;rintro v1 H1 ⟨aI,rfl⟩;refine vr 7 ?_;refine ax true rfl rfl (kn (by omega)) ?_;refine vr 7 ?_;refine ab [1,2,3,4,31] ?_;refine cD rfl ?_;refine ae ?_;refine vr 1 ?_;refine ab [8] ?_;refine aq ⟨.inr rfl,_,.tmp rfl (.nil),?_⟩;exact⟨aI,false,rfl,⟨(fun h=>by cases h),(fun h=>absurd h.wc ej)⟩⟩
 ·
  skip
  refine ae ?_;refine vr 2 ?_;refine ar rfl rfl (Wa hp hx oQ (by omega) hf) ?_;rintro v1 H1 ⟨aI,rfl⟩;refine vr 15 ?_;refine ab [1,2,3,4,31] ?_;refine cD rfl ?_;refine ae ?_;refine vr 1 ?_;refine ab [8] ?_;refine aq ⟨.inr rfl,_,.tmp rfl (.nil),?_⟩;exact⟨aI,false,rfl,⟨(fun h=>by cases h),(fun h=>absurd h.dB hf)⟩⟩
end Go.ay
