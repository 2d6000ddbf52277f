/- Part 5 of the proof: Num2, Num3, Bd, TDat, Tab1, TDat2, Tab2. -/
import Derived.Test.YtfjncmjbhfdnpaaGreatA04
set_option linter.unusedVariables false
namespace Go.ay
open Go.Proofs Num
theorem aaw(p q:Rat):((p.num*(q.den:Int)+q.num*(p.den:Int):Int):Rat)/(((p.den:Int)*(q.den:Int):Int):Rat)=p+q:=by
 have h1:=sj p
 have h2:=sj q
 have h3:=AM p
 have h4:=AM q
 rw[Rat.intCast_add,Rat.intCast_mul,Rat.intCast_mul,Rat.intCast_mul]
 grind
theorem aax(p q:Rat):((p.num*q.num:Int):Rat)/(((p.den:Int)*(q.den:Int):Int):Rat)=p*q:=by
 have h1:=sj p
 have h2:=sj q
 have h3:=AM p
 have h4:=AM q
 rw[Rat.intCast_mul,Rat.intCast_mul]
 grind
theorem aay{q:Rat}(h:q≠0):((q.num:Int):Rat)≠0:=fun e=>h (by
 have:q.num=0:=by exact_mod_cast e
 exact Rat.num_eq_zero.1 this)
theorem Q0(p:Rat){q:Rat}(h:q≠0):((p.num*(q.den:Int):Int):Rat)/(((p.den:Int)*q.num:Int):Rat)=p/q:=by
 have h1:=sj p
 have h2:=sj q
 have h3:=AM p
 have h4:=AM q
 have h5:=aay h
 rw[Rat.intCast_mul,Rat.intCast_mul]
 grind
theorem aaz(p:Rat){q:Rat}(h:q≠0):((-p.num*(q.den:Int):Int):Rat)/((-(p.den:Int)*q.num:Int):Rat)=p/q:=by
 rw[←Q0 p h,Int.neg_mul,Int.neg_mul,Rat.intCast_neg,Rat.intCast_neg]
 grind
theorem HI{H:Heap}{us vs:List Value}{p q:Rat}{N:Nat}(hu:bo H us p)(hv:bo H vs q)(h1:aJ p≤N)(h2:aJ q≤N)(hN:(N:Int)≤1099511627776):
 Fn Tryz.prog 183 #[.agg us.toArray,.agg vs.toArray] H (qa H (p+q)):=by
 obtain⟨n1,d1,b1,rfl,di⟩:=id hu
 obtain⟨n2,d2,b2,rfl,aW⟩:=id hv;refine aU (args:=[_,_]) Tryz.func183 rfl rfl Tryz.ntmps183 rfl rfl fun w0=> ?_;refine ag [0,1] rfl ?_;refine ae ?_;refine bF rfl rfl ?_;refine bF rfl rfl ?_;refine bh dT rfl ?_;refine ab [2,3,4] ?_;refine al ?_
 cases l0:tT n1 d1 b1
 ·
  skip
  refine ae ?_;refine vr 1 ?_;refine ar rfl rfl (ny) ?_;rintro v1 H1 ⟨e1,rfl⟩;rw[e1,l0];refine vr 4 ?_;refine ab [2,3,4,10] ?_;refine dg rfl ?_;refine aw ?_;refine ag [2,3,4] rfl ?_;refine bL .bn [0,2,1,3,4,5,6] follows (by kernel_rfl) ?_;refine vr 2 ?_;refine aH rfl rfl (qc hu) (fun _ _ h=>by first | exact h.le | exact h.1) ?_;rintro w1 G1 ⟨fc,cn⟩;obtain⟨u1,x1,rfl,ep,ee⟩:=id cn;obtain⟨lS,lT,rfl,lU,lV⟩:=id ep;obtain⟨sk,sm,rfl,so,sq⟩:=id ee;refine aH rfl rfl (qc (hv.le fc)) (fun _ _ h=>by first | exact h.le | exact h.1) ?_;rintro w2 G2 ⟨dP,bK⟩;obtain⟨u2,x2,rfl,eY,fm⟩:=id bK;obtain⟨oc,oe,rfl,og,oh⟩:=id eY;obtain⟨oj,om,rfl,oo,ot⟩:=id fm;refine aH rfl rfl (Qm (N:=N) ((cn.le dP).raw.mono h1) (bK.raw.mono h2) hN) (fun _ _ h=>by first | exact h.le | exact h.1) ?_;rintro w3 G3 ⟨mH,fe⟩;obtain⟨u3,x3,rfl,nA,ic⟩:=id fe;obtain⟨AZ,A7,rfl,Ba,Bb⟩:=id nA;obtain⟨Bc,Be,rfl,Bf,Bg⟩:=id ic;refine aH rfl rfl (vU fe) (fun _ _ h=>by first | exact h.le | exact h.1) ?_;rintro w4 G4 ⟨jx,we,rfl,bR⟩;obtain⟨n4,d4,b4,rfl,_⟩:=id bR;obtain⟨ti,aj,ak⟩:=bV;refine aG (.inl ⟨rfl,rfl⟩) rfl rfl rfl aj ak rfl rfl rfl ?_;refine ab [4] ?_;obtain⟨bX,aK,aL⟩:=bV;refine aq ⟨.inr rfl,_,.agg rfl Tryz.underlying90 aK aL (.nil),?_⟩
  exact⟨((fc.trans dP).trans mH).trans jx,_,rfl,bR⟩
 ·
  skip
  cases fC:tT n2 d2 b2
  ·
   skip
   refine ae ?_;refine vr 1 ?_;refine ar rfl rfl (ny) ?_;rintro v1 H1 ⟨e1,rfl⟩;rw[e1,l0];refine vr 2 ?_;refine ar rfl rfl (ny) ?_;rintro v1 H1 ⟨e1,rfl⟩;rw[e1,fC];refine vr 1 ?_;refine ab [2,3,4,10] ?_;refine dg rfl ?_;refine aw ?_;refine ag [2,3,4] rfl ?_;refine bL .bn [0,2,1,3,4,5,6] follows (by kernel_rfl) ?_;refine vr 2 ?_;refine aH rfl rfl (qc hu) (fun _ _ h=>by first | exact h.le | exact h.1) ?_;rintro w1 G1 ⟨fc,cn⟩;obtain⟨u1,x1,rfl,ep,ee⟩:=id cn;obtain⟨lS,lT,rfl,lU,lV⟩:=id ep;obtain⟨sk,sm,rfl,so,sq⟩:=id ee;refine aH rfl rfl (qc (hv.le fc)) (fun _ _ h=>by first | exact h.le | exact h.1) ?_;rintro w2 G2 ⟨dP,bK⟩;obtain⟨u2,x2,rfl,eY,fm⟩:=id bK;obtain⟨oc,oe,rfl,og,oh⟩:=id eY;obtain⟨oj,om,rfl,oo,ot⟩:=id fm;refine aH rfl rfl (Qm (N:=N) ((cn.le dP).raw.mono h1) (bK.raw.mono h2) hN) (fun _ _ h=>by first | exact h.le | exact h.1) ?_;rintro w3 G3 ⟨mH,fe⟩;obtain⟨u3,x3,rfl,nA,ic⟩:=id fe;obtain⟨AZ,A7,rfl,Ba,Bb⟩:=id nA;obtain⟨Bc,Be,rfl,Bf,Bg⟩:=id ic;refine aH rfl rfl (vU fe) (fun _ _ h=>by first | exact h.le | exact h.1) ?_;rintro w4 G4 ⟨jx,we,rfl,bR⟩;obtain⟨n4,d4,b4,rfl,_⟩:=id bR;obtain⟨ti,aj,ak⟩:=bV;refine aG (.inl ⟨rfl,rfl⟩) rfl rfl rfl aj ak rfl rfl rfl ?_
   refine ab [4] ?_;obtain⟨bX,aK,aL⟩:=bV;refine aq ⟨.inr rfl,_,.agg rfl Tryz.underlying90 aK aL (.nil),?_⟩;exact⟨((fc.trans dP).trans mH).trans jx,_,rfl,bR⟩
  ·
   obtain⟨rfl,k1,k2,k3⟩:=ym.1 l0;obtain⟨rfl,k4,k5,k6⟩:=ym.1 fC;obtain⟨-,rfl,rfl,-⟩:=di.resolve_right (by rintro⟨ad,f,u,w,h,_⟩;cases h);obtain⟨-,rfl,rfl,-⟩:=aW.resolve_right (by rintro⟨ad,f,u,w,h,_⟩;cases h);have gG:=den_pos p;have ia:=den_pos q;have m1:=yl (a:=p.num) (b:=q.den) k1 k2 (by omega) k6;have m2:=yl (a:=q.num) (b:=p.den) k4 k5 (by omega) k3;have m3:=yl (a:=p.den) (b:=q.den) (by omega) k3 (by omega) k6;have m4:0<(p.den:Int)*(q.den:Int):=Int.mul_pos (by omega) (by omega);refine ae ?_;refine vr 1 ?_;refine ar rfl rfl (ny) ?_;rintro v1 H1 ⟨e1,rfl⟩;rw[e1,l0];refine vr 2 ?_;refine ar rfl rfl (ny) ?_;rintro v1 H1 ⟨e1,rfl⟩;rw[e1,fC];refine vr 1 ?_;refine ab [2,3,4,10] ?_;refine cD rfl ?_;refine ae ?_;refine vr 4 ?_;refine jh rfl rfl ⟨by omega,by omega⟩ ?_;refine vr 4 ?_;refine jh rfl rfl ⟨by omega,by omega⟩ ?_;refine aN rfl rfl ⟨by omega,by omega⟩ ?_;refine vr 4 ?_;refine jh rfl rfl ⟨by omega,by omega⟩ ?_;refine ar rfl rfl (Hz (by omega) (by omega) m4 (by omega)) ?_;rintro w1 G1 ⟨fc,DE,rfl,cn⟩;rw[aaw]at cn;obtain⟨n1,d1,b1,rfl,_⟩:=id cn;obtain⟨ti,aj,ak⟩:=bV;refine aG (.inl ⟨rfl,rfl⟩) rfl rfl rfl aj ak rfl rfl rfl ?_;refine ab [4] ?_
   obtain⟨bX,aK,aL⟩:=bV;refine aq ⟨.inr rfl,_,.agg rfl Tryz.underlying90 aK aL (.nil),?_⟩;exact⟨fc,_,rfl,cn⟩
theorem tY{H:Heap}{us vs:List Value}{p q:Rat}{N:Nat}(hu:bo H us p)(hv:bo H vs q)(h1:aJ p≤N)(h2:aJ q≤N)(hN:(N:Int)≤1099511627776):
 Fn Tryz.prog 128 #[.agg us.toArray,.agg vs.toArray] H (qa H (p*q)):=by
 obtain⟨n1,d1,b1,rfl,di⟩:=id hu
 obtain⟨n2,d2,b2,rfl,aW⟩:=id hv;refine aU (args:=[_,_]) Tryz.func128 rfl rfl Tryz.ntmps128 rfl rfl fun w0=> ?_;refine ag [0,1] rfl ?_;refine ae ?_;refine bF rfl rfl ?_;refine bF rfl rfl ?_;refine bh dT rfl ?_;refine ab [2,3,4] ?_;refine al ?_
 cases l0:tT n1 d1 b1
 ·
  skip
  refine ae ?_;refine vr 1 ?_;refine ar rfl rfl (ny) ?_;rintro v1 H1 ⟨e1,rfl⟩;rw[e1,l0];refine vr 4 ?_;refine ab [2,3,4,10] ?_;refine dg rfl ?_;refine aw ?_;refine ag [2,3,4] rfl ?_;refine bL .bn [0,2,1,3,4,5,6] follows (by kernel_rfl) ?_;refine vr 2 ?_;refine aH rfl rfl (qc hu) (fun _ _ h=>by first | exact h.le | exact h.1) ?_;rintro w1 G1 ⟨fc,cn⟩;obtain⟨u1,x1,rfl,ep,ee⟩:=id cn;obtain⟨lS,lT,rfl,lU,lV⟩:=id ep;obtain⟨sk,sm,rfl,so,sq⟩:=id ee;refine aH rfl rfl (qc (hv.le fc)) (fun _ _ h=>by first | exact h.le | exact h.1) ?_;rintro w2 G2 ⟨dP,bK⟩;obtain⟨u2,x2,rfl,eY,fm⟩:=id bK;obtain⟨oc,oe,rfl,og,oh⟩:=id eY;obtain⟨oj,om,rfl,oo,ot⟩:=id fm;refine aH rfl rfl (K1 (N:=N) ((cn.le dP).raw.mono h1) (bK.raw.mono h2) hN) (fun _ _ h=>by first | exact h.le | exact h.1) ?_;rintro w3 G3 ⟨mH,fe⟩;obtain⟨u3,x3,rfl,nA,ic⟩:=id fe;obtain⟨AZ,A7,rfl,Ba,Bb⟩:=id nA;obtain⟨Bc,Be,rfl,Bf,Bg⟩:=id ic;refine aH rfl rfl (vU fe) (fun _ _ h=>by first | exact h.le | exact h.1) ?_;rintro w4 G4 ⟨jx,we,rfl,bR⟩;obtain⟨n4,d4,b4,rfl,_⟩:=id bR;obtain⟨ti,aj,ak⟩:=bV;refine aG (.inl ⟨rfl,rfl⟩) rfl rfl rfl aj ak rfl rfl rfl ?_;refine ab [4] ?_;obtain⟨bX,aK,aL⟩:=bV;refine aq ⟨.inr rfl,_,.agg rfl Tryz.underlying90 aK aL (.nil),?_⟩
  exact⟨((fc.trans dP).trans mH).trans jx,_,rfl,bR⟩
 ·
  skip
  cases fC:tT n2 d2 b2
  ·
   skip
   refine ae ?_;refine vr 1 ?_;refine ar rfl rfl (ny) ?_;rintro v1 H1 ⟨e1,rfl⟩;rw[e1,l0];refine vr 2 ?_;refine ar rfl rfl (ny) ?_;rintro v1 H1 ⟨e1,rfl⟩;rw[e1,fC];refine vr 1 ?_;refine ab [2,3,4,10] ?_;refine dg rfl ?_;refine aw ?_;refine ag [2,3,4] rfl ?_;refine bL .bn [0,2,1,3,4,5,6] follows (by kernel_rfl) ?_;refine vr 2 ?_;refine aH rfl rfl (qc hu) (fun _ _ h=>by first | exact h.le | exact h.1) ?_;rintro w1 G1 ⟨fc,cn⟩;obtain⟨u1,x1,rfl,ep,ee⟩:=id cn;obtain⟨lS,lT,rfl,lU,lV⟩:=id ep;obtain⟨sk,sm,rfl,so,sq⟩:=id ee;refine aH rfl rfl (qc (hv.le fc)) (fun _ _ h=>by first | exact h.le | exact h.1) ?_;rintro w2 G2 ⟨dP,bK⟩;obtain⟨u2,x2,rfl,eY,fm⟩:=id bK;obtain⟨oc,oe,rfl,og,oh⟩:=id eY;obtain⟨oj,om,rfl,oo,ot⟩:=id fm;refine aH rfl rfl (K1 (N:=N) ((cn.le dP).raw.mono h1) (bK.raw.mono h2) hN) (fun _ _ h=>by first | exact h.le | exact h.1) ?_;rintro w3 G3 ⟨mH,fe⟩;obtain⟨u3,x3,rfl,nA,ic⟩:=id fe;obtain⟨AZ,A7,rfl,Ba,Bb⟩:=id nA;obtain⟨Bc,Be,rfl,Bf,Bg⟩:=id ic;refine aH rfl rfl (vU fe) (fun _ _ h=>by first | exact h.le | exact h.1) ?_;rintro w4 G4 ⟨jx,we,rfl,bR⟩;obtain⟨n4,d4,b4,rfl,_⟩:=id bR;obtain⟨ti,aj,ak⟩:=bV;refine aG (.inl ⟨rfl,rfl⟩) rfl rfl rfl aj ak rfl rfl rfl ?_
   refine ab [4] ?_;obtain⟨bX,aK,aL⟩:=bV;refine aq ⟨.inr rfl,_,.agg rfl Tryz.underlying90 aK aL (.nil),?_⟩;exact⟨((fc.trans dP).trans mH).trans jx,_,rfl,bR⟩
  ·
   obtain⟨rfl,k1,k2,k3⟩:=ym.1 l0;obtain⟨rfl,k4,k5,k6⟩:=ym.1 fC;obtain⟨-,rfl,rfl,-⟩:=di.resolve_right (by rintro⟨ad,f,u,w,h,_⟩;cases h);obtain⟨-,rfl,rfl,-⟩:=aW.resolve_right (by rintro⟨ad,f,u,w,h,_⟩;cases h);have gG:=den_pos p;have ia:=den_pos q;have m1:=yl (a:=p.num) (b:=q.num) k1 k2 k4 k5;have m3:=yl (a:=p.den) (b:=q.den) (by omega) k3 (by omega) k6;have m4:0<(p.den:Int)*(q.den:Int):=Int.mul_pos (by omega) (by omega);refine ae ?_;refine vr 1 ?_;refine ar rfl rfl (ny) ?_;rintro v1 H1 ⟨e1,rfl⟩;rw[e1,l0];refine vr 2 ?_;refine ar rfl rfl (ny) ?_;rintro v1 H1 ⟨e1,rfl⟩;rw[e1,fC];refine vr 1 ?_;refine ab [2,3,4,10] ?_;refine cD rfl ?_;refine ae ?_;refine vr 4 ?_;refine jh rfl rfl ⟨by omega,by omega⟩ ?_;refine vr 4 ?_;refine jh rfl rfl ⟨by omega,by omega⟩ ?_;refine ar rfl rfl (Hz (by omega) (by omega) m4 (by omega)) ?_;rintro w1 G1 ⟨fc,DE,rfl,cn⟩;rw[aax]at cn;obtain⟨n1,d1,b1,rfl,_⟩:=id cn;obtain⟨ti,aj,ak⟩:=bV;refine aG (.inl ⟨rfl,rfl⟩) rfl rfl rfl aj ak rfl rfl rfl ?_;refine ab [4] ?_;obtain⟨bX,aK,aL⟩:=bV;refine aq ⟨.inr rfl,_,.agg rfl Tryz.underlying90 aK aL (.nil),?_⟩;exact⟨fc,_,rfl,cn⟩
theorem tZ{H:Heap}{us vs:List Value}{p q:Rat}{N:Nat}(hu:bo H us p)(hv:bo H vs q)(h1:aJ p≤N)(h2:aJ q≤N)(hN:(N:Int)≤1099511627776):
 Fn Tryz.prog 119 #[.agg us.toArray,.agg vs.toArray] H (qa H (p-q)):=by
 obtain⟨n1,d1,b1,rfl,di⟩:=id hu
 obtain⟨n2,d2,b2,rfl,aW⟩:=id hv
 have qU:=AL q;refine aU (args:=[_,_]) Tryz.func119 rfl rfl Tryz.ntmps119 rfl rfl fun w0=> ?_;refine ag [0,1] rfl ?_;refine ae ?_;refine bF rfl rfl ?_;refine bF rfl rfl ?_;refine bh dT rfl ?_;refine ab [2,3,4] ?_;refine bL .bn [0,1,2,3,4] follows (by kernel_rfl) ?_;refine vr 2 ?_;refine aH rfl rfl (AO hv (by omega)) (fun _ _ h=>by first | exact h.le | exact h.1) ?_;rintro w1 G1 ⟨fc,DE,rfl,cn⟩;obtain⟨n1,d1,b1,rfl,_⟩:=id cn;refine aH rfl rfl (HI (hu.le fc) cn h1 (by omega) hN) (fun _ _ h=>by first | exact h.le | exact h.1) ?_;rintro w2 G2 ⟨dP,Dv,rfl,bK⟩;rw[←Rat.sub_eq_add_neg]at bK;obtain⟨n2,d2,b2,rfl,_⟩:=id bK;obtain⟨ti,aj,ak⟩:=bV;refine aG (.inl ⟨rfl,rfl⟩) rfl rfl rfl aj ak rfl rfl rfl ?_;refine ab [4] ?_;obtain⟨bX,aK,aL⟩:=bV;refine aq ⟨.inr rfl,_,.agg rfl Tryz.underlying90 aK aL (.nil),?_⟩;exact⟨fc.trans dP,_,rfl,bK⟩
theorem Q3{H:Heap}{us vs:List Value}{p q:Rat}{N:Nat}(hu:bo H us p)(hv:bo H vs q)(h1:aJ p≤N)(h2:aJ q≤N)(hN:(N:Int)≤1099511627776)(hq:q≠0):
 Fn Tryz.prog 126 #[.agg us.toArray,.agg vs.toArray] H (qa H (p/q)):=by
 obtain⟨n1,d1,b1,rfl,di⟩:=id hu
 obtain⟨n2,d2,b2,rfl,aW⟩:=id hv;refine aU (args:=[_,_]) Tryz.func126 rfl rfl Tryz.ntmps126 rfl rfl fun w0=> ?_;refine ag [0,1] rfl ?_;refine ae ?_;refine bF rfl rfl ?_;refine bF rfl rfl ?_;refine bh dT rfl ?_;refine ab [2,3,4] ?_;refine al ?_
 cases l0:tT n1 d1 b1
 ·
  skip
  refine ae ?_;refine vr 1 ?_;refine ar rfl rfl (ny) ?_;rintro v1 H1 ⟨e1,rfl⟩;rw[e1,l0];refine vr 4 ?_;refine ab [2,3,4,12] ?_;refine dg rfl ?_;refine aw ?_;refine ag [2,3,4] rfl ?_;refine bL .bn [0,2,1,3,4,5,6,7,8,9,10] follows (by kernel_rfl) ?_;refine vr 2 ?_;refine aH rfl rfl (qc hu) (fun _ _ h=>by first | exact h.le | exact h.1) ?_;rintro w1 G1 ⟨fc,cn⟩;obtain⟨u1,x1,rfl,ep,ee⟩:=id cn;obtain⟨lS,lT,rfl,lU,lV⟩:=id ep;obtain⟨sk,sm,rfl,so,sq⟩:=id ee;refine aH rfl rfl (qc (hv.le fc)) (fun _ _ h=>by first | exact h.le | exact h.1) ?_;rintro w2 G2 ⟨dP,bK⟩;obtain⟨u2,x2,rfl,eY,fm⟩:=id bK;obtain⟨oc,oe,rfl,og,oh⟩:=id eY;obtain⟨oj,om,rfl,oo,ot⟩:=id fm;refine aH rfl rfl (Qn (N:=N) ((cn.le dP).raw.mono h1) (bK.raw.mono h2) hN) (fun _ _ h=>by first | exact h.le | exact h.1) ?_;rintro w3 G3 ⟨mH,r3,rfl,fe⟩;obtain⟨u3,x3,rfl,nA,ic⟩:=id fe;obtain⟨AZ,A7,rfl,Ba,Bb⟩:=id nA;obtain⟨Bc,Be,rfl,Bf,Bg⟩:=id ic;refine vr 3 ?_;refine bh cM rfl ?_;obtain⟨ti,aj,ak⟩:=bM;refine aG (.inl ⟨rfl,rfl⟩) rfl rfl rfl aj ak rfl rfl rfl ?_;refine vr 1 ?_;refine ab [4,5] ?_;refine ae ?_;refine vr 1 ?_;refine ar rfl rfl (vU fe) ?_
  rintro w4 G4 ⟨jx,we,rfl,bR⟩;obtain⟨n4,d4,b4,rfl,_⟩:=id bR;obtain⟨ti,aj,ak⟩:=bV;refine aG (.inl ⟨rfl,rfl⟩) rfl rfl rfl aj ak rfl rfl rfl ?_;refine ab [4] ?_;obtain⟨bX,aK,aL⟩:=bV;refine aq ⟨.inr rfl,_,.agg rfl Tryz.underlying90 aK aL (.nil),?_⟩;exact⟨((fc.trans dP).trans mH).trans jx,_,rfl,bR⟩
 ·
  skip
  cases fC:tT n2 d2 b2
  ·
   skip
   refine ae ?_;refine vr 1 ?_;refine ar rfl rfl (ny) ?_;rintro v1 H1 ⟨e1,rfl⟩;rw[e1,l0];refine vr 2 ?_;refine ar rfl rfl (ny) ?_;rintro v1 H1 ⟨e1,rfl⟩;rw[e1,fC];refine vr 1 ?_;refine ab [2,3,4,12] ?_;refine dg rfl ?_;refine aw ?_;refine ag [2,3,4] rfl ?_;refine bL .bn [0,2,1,3,4,5,6,7,8,9,10] follows (by kernel_rfl) ?_;refine vr 2 ?_;refine aH rfl rfl (qc hu) (fun _ _ h=>by first | exact h.le | exact h.1) ?_;rintro w1 G1 ⟨fc,cn⟩;obtain⟨u1,x1,rfl,ep,ee⟩:=id cn;obtain⟨lS,lT,rfl,lU,lV⟩:=id ep;obtain⟨sk,sm,rfl,so,sq⟩:=id ee;refine aH rfl rfl (qc (hv.le fc)) (fun _ _ h=>by first | exact h.le | exact h.1) ?_;rintro w2 G2 ⟨dP,bK⟩;obtain⟨u2,x2,rfl,eY,fm⟩:=id bK;obtain⟨oc,oe,rfl,og,oh⟩:=id eY;obtain⟨oj,om,rfl,oo,ot⟩:=id fm;refine aH rfl rfl (Qn (N:=N) ((cn.le dP).raw.mono h1) (bK.raw.mono h2) hN) (fun _ _ h=>by first | exact h.le | exact h.1) ?_;rintro w3 G3 ⟨mH,r3,rfl,fe⟩;obtain⟨u3,x3,rfl,nA,ic⟩:=id fe;obtain⟨AZ,A7,rfl,Ba,Bb⟩:=id nA;obtain⟨Bc,Be,rfl,Bf,Bg⟩:=id ic;refine vr 3 ?_;refine bh cM rfl ?_;obtain⟨ti,aj,ak⟩:=bM;refine aG (.inl ⟨rfl,rfl⟩) rfl rfl rfl aj ak rfl rfl rfl ?_;refine vr 1 ?_
   refine ab [4,5] ?_;refine ae ?_;refine vr 1 ?_;refine ar rfl rfl (vU fe) ?_;rintro w4 G4 ⟨jx,we,rfl,bR⟩;obtain⟨n4,d4,b4,rfl,_⟩:=id bR;obtain⟨ti,aj,ak⟩:=bV;refine aG (.inl ⟨rfl,rfl⟩) rfl rfl rfl aj ak rfl rfl rfl ?_;refine ab [4] ?_;obtain⟨bX,aK,aL⟩:=bV;refine aq ⟨.inr rfl,_,.agg rfl Tryz.underlying90 aK aL (.nil),?_⟩;exact⟨((fc.trans dP).trans mH).trans jx,_,rfl,bR⟩
  ·
   obtain⟨rfl,k1,k2,k3⟩:=ym.1 l0;obtain⟨rfl,k4,k5,k6⟩:=ym.1 fC;obtain⟨-,rfl,rfl,-⟩:=di.resolve_right (by rintro⟨ad,f,u,w,h,_⟩;cases h);obtain⟨-,rfl,rfl,-⟩:=aW.resolve_right (by rintro⟨ad,f,u,w,h,_⟩;cases h);have gG:=den_pos p;have ia:=den_pos q;have hqn:q.num≠0:=fun e=>hq (Rat.num_eq_zero.1 e);have m1:=yl (a:=p.num) (b:=q.den) k1 k2 (by omega) k6;have m3:=yl (a:=p.den) (b:=q.num) (by omega) k3 k4 k5;refine ae ?_;refine vr 1 ?_;refine ar rfl rfl (ny) ?_;rintro v1 H1 ⟨e1,rfl⟩;rw[e1,l0];refine vr 2 ?_;refine ar rfl rfl (ny) ?_;rintro v1 H1 ⟨e1,rfl⟩;rw[e1,fC];refine vr 1 ?_;refine ab [2,3,4,12] ?_;refine cD rfl ?_;refine al ?_;refine ae ?_;refine vr 3 ?_;refine ab [2,3,4,15] ?_;refine az rfl (fun hb=> ?_) (fun hb=> ?_)
   ·
    have hb:q.num<0:=by simpa using hb
    have m4:0 < -(p.den:Int)*q.num:=by rw[Int.neg_mul,←Int.mul_neg];exact Int.mul_pos (by omega) (by omega)
    have e1: -p.num*(q.den:Int) = -(p.num*(q.den:Int)):=Int.neg_mul _ _;have e2: -(p.den:Int)*q.num = -((p.den:Int)*q.num):=Int.neg_mul _ _;refine ae ?_;refine vr 2 ?_;refine zS rfl ⟨by omega,by omega⟩ ?_;refine vr 2 ?_;refine jh rfl rfl ⟨by omega,by omega⟩ ?_;refine vr 2 ?_;refine zS rfl ⟨by omega,by omega⟩ ?_;refine vr 2 ?_;refine jh rfl rfl ⟨by omega,by omega⟩ ?_;refine ar rfl rfl (Hz (by omega) (by omega) m4 (by omega)) ?_;rintro w1 G1 ⟨fc,DE,rfl,cn⟩;rw[aaz p hq]at cn;obtain⟨n1,d1,b1,rfl,_⟩:=id cn;obtain⟨ti,aj,ak⟩:=bV;refine aG (.inl ⟨rfl,rfl⟩) rfl rfl rfl aj ak rfl rfl rfl ?_;refine ab [4] ?_;obtain⟨bX,aK,aL⟩:=bV;refine aq ⟨.inr rfl,_,.agg rfl Tryz.underlying90 aK aL (.nil),?_⟩;exact⟨fc,_,rfl,cn⟩
   ·
    have hb:0<q.num:=by have:=of_decide_eq_false hb;omega
    have m4:0<(p.den:Int)*q.num:=Int.mul_pos (by omega) hb;refine aw ?_;refine ag [2,3,4] rfl ?_;refine ae ?_;refine vr 4 ?_;refine jh rfl rfl ⟨by omega,by omega⟩ ?_;refine vr 4 ?_;refine jh rfl rfl ⟨by omega,by omega⟩ ?_;refine ar rfl rfl (Hz (by omega) (by omega) m4 (by omega)) ?_;rintro w1 G1 ⟨fc,DE,rfl,cn⟩;rw[Q0 p hq]at cn;obtain⟨n1,d1,b1,rfl,_⟩:=id cn;obtain⟨ti,aj,ak⟩:=bV;refine aG (.inl ⟨rfl,rfl⟩) rfl rfl rfl aj ak rfl rfl rfl ?_;refine ab [4] ?_;obtain⟨bX,aK,aL⟩:=bV;refine aq ⟨.inr rfl,_,.agg rfl Tryz.underlying90 aK aL (.nil),?_⟩;exact⟨fc,_,rfl,cn⟩
end Go.ay
namespace Go.ay
open Go.Proofs Num Lp
def jr{α:Type}(P:Heap→List Value→α→Prop)(H:Heap)(vs:List Value):Option α→Prop
 | some a=>P H vs a
 | none=>True
theorem jr.up{α:Type}{P:Heap→List Value→α→Prop}(up:Up P):Up (jr P):=fun H H' vs a hl h=>by
 cases a with
 | none=>trivial
 | some a=>exact up H H' vs a hl h
def fill{α:Type}(l:List α)(k:Nat):List (Option α):=(l.take k).map some++List.replicate (l.length-k) none
section
variable {α:Type} {l:List α} {k:Nat}
theorem Bh(h:k≤l.length):(fill l k).length=l.length:=by simp[fill];omega
theorem aaA:fill l 0=List.replicate l.length none:=by simp[fill]
theorem Bi{a:α}(h:l[k]? = some a):(fill l k).set k (some a)=fill l (k+1):=by
 have hk:=(List.getElem?_eq_some_iff.1 h).1
 apply List.ext_getElem?
 intro i
 by_cases e:i=k
 ·subst e
  rw[List.getElem?_set_self (by rw[Bh (by omega)];omega)]
  unfold fill
  rw[List.getElem?_append_left (by simp;omega),List.getElem?_map,List.getElem?_take,if_pos (by omega),h];rfl
 ·rw[List.getElem?_set_ne (fun e'=>e e'.symm)]
  unfold fill
  by_cases h1:i<k
  ·rw[List.getElem?_append_left (by simp;omega),List.getElem?_append_left (by simp;omega),List.getElem?_map,List.getElem?_map,List.getElem?_take,List.getElem?_take,if_pos h1,if_pos (by omega)]
  ·rw[List.getElem?_append_right (by simp;omega),List.getElem?_append_right (by simp;omega),List.getElem?_replicate,List.getElem?_replicate]
   simp only[List.length_map,List.length_take]
   by_cases h2:i<l.length
   ·rw[if_pos (by omega),if_pos (by omega)]
   ·rw[if_neg (by omega),if_neg (by omega)]
theorem aaB:fill l l.length=l.map some:=by simp[fill]
theorem HJ{P:Heap→List Value→α→Prop}{H:Heap}{sz:Nat}{xs:List Value}(h:bI (jr P H) sz xs (fill l l.length)):bI (P H) sz xs l:=by
 rw[aaB]at h
 refine⟨by simpa using h.len,fun i a ha=> ?_⟩
 exact h.at_ i (some a) (by rw[List.getElem?_map,ha];rfl)
end
theorem DF{α:Type}{P:Heap→List Value→α→Prop}{H:Heap}{zs:List Value}{sz:Nat}(hz:zs.length=sz)(l:List α):bI (jr P H) sz (de zs (l.length*sz)) (fill l 0):=by
 rw[aaA]
 exact K6 (P:=jr P H) (a:=none) hz trivial _
theorem fD:Up bo:=bo.up
def aS(N:Nat)(H:Heap)(vs:List Value)(q:Rat):Prop:=bN H (.agg vs.toArray) q N
theorem a8(N:Nat):Up (aS N):=fun _ _ _ _ hl h=>bN.le h hl
def gI(H:Heap)(vs:List Value)(q:Rat):Prop:=cJ H (.agg vs.toArray) q
theorem ix:Up gI:=fun _ _ _ _ hl h=>cJ.le h hl
theorem Bj{vs:List Value}{a b c:Value}(h:Value.agg vs.toArray = .agg #[a,b,c]):vs = [a,b,c]:=by
 simp only[Value.agg.injEq]at h
 have:=congrArg Array.toList h
 simpa using this
theorem aS.cells{N:Nat}{H:Heap}{vs:List Value}{q:Rat}(h:aS N H vs q):∃f A m c A' m' c',vs = [.bool f,.slice A m c,.slice A' m' c']:=by
 obtain⟨f,u,w,l1,l2,h1,⟨A,c,rfl,_,_⟩,⟨A',c',rfl,_,_⟩,_⟩:=h
 exact⟨f,A,_,c,A',_,c',Bj h1⟩
theorem gI.rat{H:Heap}{vs:List Value}{q:Rat}{N:Nat}(h:gI H vs q)(hs:aJ q≤N):aS N H vs q:=bN.mono (cJ.raw h) hs
theorem bo.cells{H:Heap}{vs:List Value}{q:Rat}(h:bo H vs q):∃n d b,vs = [.int .i64 n,.int .i64 d,.pointer b]:=by
 obtain⟨n,d,b,h,_⟩:=h;exact⟨n,d,b,h⟩
theorem aaC(H:Heap)(g:Nat)(xs vs:List Value)(s e k sz:Nat):ins (ins H g ⟨xs,s,e,true⟩) g {(⟨xs,s,e,true⟩:aQ)with xs:=aF xs (0+k*sz) vs}=ins H g ⟨aF xs (k*sz) vs,s,e,true⟩:=by
 rw[vj,Nat.zero_add]
theorem qX{H:Heap}{g:Nat}{xs:List Value}{s e:Nat}{b:Bool}(h:H g=some ⟨xs,s,e,b⟩):Rd H (some ⟨g,0,none⟩) xs:=fun i v hv=>⟨_,rfl,by simp[cell,kQ,h,hv]⟩
theorem wg{q:Rat}(h:dF q=0):q=0:=by
 unfold dF at h
 split at h
 ·omega
 ·split at h
  ·assumption
  ·omega
theorem Q4:aJ 0=1:=by
 unfold aJ
 show max (ah 0).length (ah 1).length=1
 rw[qM,tG];rfl
theorem Bk{f g:Nat→Rat}{s n:Nat}(hf:∀k,k<n→aJ (f k)≤s∧aJ (g k)≤s):∀k,k≤n→aJ (aV k (fun j=>f j*g j))≤k*(2*s+1)+1:=by
 intro k
 induction k with
 | zero=>intro _;rw[vW,Q4];omega
 | succ k ih=>
  intro hk
  have h1:=ih (by omega)
  have h2:=nx (f k) (g k)
  have h3:=Du (aV k (fun j=>f j*g j)) (f k*g k)
  have h4:=hf k (by omega)
  rw[fJ,Nat.add_mul]
  omega
theorem sD{l:List Rat}{s:Nat}(h:∀q,q∈l→aJ q≤s){k:Nat}(hk:k<l.length):aJ (fn l k)≤s:=by
 rw[gq (List.getElem?_eq_getElem hk)];exact h _ (List.getElem_mem hk)
def aaD(H:Heap)(l:List Rat)(v:Value)(H':Heap):Prop:=∃g xs,H g=none∧v = .slice (some ⟨g,0,none⟩) l.length l.length∧H'=ins H g ⟨xs,l.length*3,90,true⟩∧∀K:Heap,bI (bo K) 3 xs l
def Lr{α:Type}(P:Heap→List Value→α→Prop)(sz:Nat)(H:Heap)(l:List α)(v:Value)(H':Heap):Prop:=Heap.le H H'∧aC P sz H' v l
theorem aaE{H:Heap}{n:Nat}(hn:(n:Int)≤8796093022208):
 Fn Tryz.prog 56 #[.int .i64 (n:Int)] H (aaD H (List.replicate n 0)):=by
 refine aU (args:=[_]) Tryz.func56 rfl rfl Tryz.ntmps56 rfl rfl fun w0=> ?_;refine ag [0] rfl ?_;refine ae ?_;refine vr 1 ?_;refine ab [0] ?_;refine ae ?_;refine vr 1 ?_;refine jS Tryz.underlying85 dT rfl rfl rfl (by omega) (by omega) (by omega) (by omega) ?_;intro g hg;rw[show ((n:Int)).toNat=n from by omega]
 have hz:∀K:Heap,bI (jr bo K) 3 (de [.int .i64 0,.int .i64 0,.pointer none] (n*3)) (fill (List.replicate n (0:Rat)) 0):=fun K=>by have:=DF (P:=bo) (H:=K) (zs:=[.int .i64 0,.int .i64 0,.pointer none]) rfl (List.replicate n (0:Rat));rwa [List.length_replicate]at this
 refine vr 1 ?_;refine ab [3] ?_;refine al ?_;refine ae ?_;refine vr 3 ?_;refine ab [3,8,9] ?_;refine aD ?_;refine jT (fun(k:Nat)(xs:List Value)=>n-k) (fun(k:Nat)(xs:List Value)=>put (put (put (emp) 3 (.val (.slice (some ⟨g,0,none⟩) n n))) 8 (.val (.int .i64 (n:Int)))) 9 (.val (.int .i64 (k:Int)))) (fun(k:Nat)(xs:List Value) H'=>H'=ins H g ⟨xs,n*3,90,true⟩∧k≤n∧∀K:Heap,bI (jr bo K) 3 xs (fill (List.replicate n (0:Rat)) k)) 0 _ (⟨rfl,Nat.zero_le _,hz⟩) au ?_;rintro k xs H1 ⟨rfl,hk,he⟩;have l7:=Bh (l:=List.replicate n (0:Rat)) (k:=k) (by simpa using hk);have cj:=(he H).len;rw[l7,List.length_replicate]at cj;refine ae ?_;refine vr 1 ?_;refine ab [3,8,9,10] ?_;refine al ?_;refine az rfl (fun hb=> ?_) (fun hb=> ?_)
 ·
  have hb:k<n:=by simpa using hb
  refine aw ?_;refine ag [3,8,9] rfl ?_;refine al ?_;refine aD ?_;refine ae ?_;refine vr 2 ?_;refine ab [3,4,8,9] ?_;refine aE rfl ?_;refine vr 2 ?_;refine ar rfl rfl (oy) ?_;rintro v1 H1 ⟨e1,rfl⟩;rw[e1];obtain⟨ti,aj,ak⟩:=bV;refine eB (.inl rfl) af rfl rfl rfl (by omega) (by omega) (bT _ _ _) rfl (by show 0+n*3≤xs.length;omega) aj ak (fun _=>rfl) rfl rfl rfl fun _=> ?_;refine aA ?_;refine ag [3,8,9] rfl ?_;refine aE rfl ?_;refine aN rfl rfl ⟨by omega,by omega⟩ ?_;refine vr 1 ?_;refine aA ?_;exact⟨k+1,_,by omega,au,aaC H g xs _ _ _ k 3,by omega,fun K=>by rw[←Bi (a:=(0:Rat)) (by rw[List.getElem?_replicate,if_pos hb])];exact(he K).set (by rw[l7,List.length_replicate];exact hb) (ow K (n:=0) (by decide) (by decide)) rfl⟩
 ·
  have hb:n≤k:=by simpa using hb
  obtain rfl:k=n:=by omega
  refine bB ?_;refine ag [3] rfl ?_;refine ae ?_;refine vr 2 ?_;refine ab [2] ?_;refine aq ⟨.inr rfl,_,.tmp rfl (.nil),?_⟩;refine⟨g,xs,hg,by rw[List.length_replicate];rfl,by rw[List.length_replicate],fun K=>HJ (l:=List.replicate k (0:Rat)) (by rw[List.length_replicate];exact he K)⟩
theorem sE{H:Heap}{v:Value}{l:List Rat}{N:Nat}(hv:aC (aS N) 3 H v l)(hN:(N:Int)≤1099511627776)(hl:(l.length:Int)≤1099511627776):
 Fn Tryz.prog 57 #[v] H (Lr bo 3 H l):=by
 obtain⟨A,c,ys,rfl,hc,hr,gT⟩:=hv;refine aU (args:=[_]) Tryz.func57 rfl rfl Tryz.ntmps57 rfl rfl fun w0=> ?_;refine ag [0] rfl ?_;refine ae ?_;refine vr 1 ?_;refine ab [0] ?_;refine ae ?_;refine vr 2 ?_;refine jS Tryz.underlying85 dT rfl rfl rfl (by omega) (by omega) (by omega) (by omega) ?_;intro g hg;rw[show ((l.length:Int)).toNat=l.length from by omega];have hz:bI (jr bo (rem (ins H g ⟨de [.int .i64 0,.int .i64 0,.pointer none] (l.length*3),l.length*3,90,true⟩) [g])) 3 (de [.int .i64 0,.int .i64 0,.pointer none] (l.length*3)) (fill l 0):=DF (sz:=3) (by rfl) l;refine vr 1 ?_;refine ab [0,3] ?_;refine al ?_;refine ae ?_;refine vr 3 ?_;refine ab [3,9,10,11] ?_;refine aD ?_;refine jT (fun(k:Nat)(xs:List Value)=>l.length-k) (fun(k:Nat)(xs:List Value)=>put (put (put (put (emp) 3 (.val (.slice (some ⟨g,0,none⟩) l.length l.length))) 9 (.val (.slice A l.length c))) 10 (.val (.int .i64 (l.length:Int)))) 11 (.val (.int .i64 (k:Int)))) (fun(k:Nat)(xs:List Value) H'=>Heap.le H (rem H' [g])∧H' g=some ⟨xs,l.length*3,90,true⟩∧k≤l.length∧bI (jr bo (rem H' [g])) 3 xs (fill l k)) 0 _ (⟨by rw[se _ hg,gn];exact .refl _,bT _ _ _,Nat.zero_le _,hz⟩) au ?_;rintro k xs H1 ⟨hle,yr,hk,he⟩;have l7:=Bh (l:=l) (k:=k) hk;have cj:=he.len
 rw[l7]at cj;have nB:=hle.trans (bG H1 [g]);refine ae ?_;refine vr 1 ?_;refine ab [3,9,10,11,12] ?_;refine al ?_;refine az rfl (fun hb=> ?_) (fun hb=> ?_)
 ·
  have hb:k<l.length:=by simpa using hb
  obtain⟨q,dG⟩:∃q,l[k]? = some q:=⟨_,List.getElem?_eq_getElem hb⟩;obtain⟨vs,iu,qY,DG⟩:=gT.get dG;obtain⟨f,A1,m1,c1,A2,m2,c2,rfl⟩:=qY.cells;have Ls:bN (rem H1 [g]) _ q N:=bN.le qY hle;refine aw ?_;refine ag [3,9,10,11] rfl ?_;refine al ?_;refine aD ?_;refine ae ?_;refine vr 1 ?_;refine cI (vs:=[.bool f,.slice A1 m1 c1,.slice A2 m2 c2]) af rfl rfl rfl rfl (hr.le nB) rfl (by decide) DG (by omega) (by omega) fun _=> ?_;refine bh cM rfl ?_;refine vr 1 ?_;obtain⟨ti,aj,ak⟩:=bM;refine aG (.inl ⟨rfl,rfl⟩) rfl rfl rfl aj ak rfl rfl rfl ?_;refine ab [3,4,5,9,10,11] ?_;refine aE rfl ?_;refine vr 3 ?_;refine ar rfl rfl (Fn.frame (gs:=[g]) (fun q hq=>by simp only[List.mem_singleton]at hq;subst hq;rw[yr];simp) (vV Ls hN)) ?_;rintro v2 H2 ⟨⟨dP,Dv,rfl,bK⟩,eL⟩;obtain⟨n2,d2,b2,rfl,_⟩:=id bK;have eU:=(eL g (List.mem_singleton.2 rfl)).trans yr;obtain⟨ti,aj,ak⟩:=bV;refine eB (.inl rfl) af rfl rfl rfl (by omega) (by omega) (eU) rfl (by show 0+l.length*3≤xs.length;omega) aj ak (fun _=>rfl) rfl rfl rfl fun _=> ?_;refine aA ?_;refine ag [3,9,10,11] rfl ?_;refine aE rfl ?_;refine aN rfl rfl ⟨by omega,by omega⟩ ?_;refine vr 1 ?_;refine aA ?_;refine⟨k+1,aF xs (k*3) [.int .i64 n2,.int .i64 d2,.pointer b2],by omega,au,?_,?_,by omega,?_⟩
  ·rw[cK _ (List.mem_singleton.2 rfl)];exact hle.trans dP
  ·rw[bT,Nat.zero_add];rfl
  ·
   rw[cK _ (List.mem_singleton.2 rfl),←Bi dG];exact(he.mono fun vs a=>jr.up fD _ _ vs a dP).set (by rw[l7];exact hb) bK rfl
 ·
  have hb:l.length≤k:=by simpa using hb
  obtain rfl:k=l.length:=by omega
  refine bB ?_;refine ag [3] rfl ?_;refine ae ?_;refine vr 2 ?_;refine ab [2] ?_;refine aq ⟨.inr rfl,_,.tmp rfl (.nil),?_⟩;exact⟨hle.trans (bG _ _),some ⟨g,0,none⟩,l.length,xs,rfl,Nat.le_refl _,qX yr,(HJ he).mono fun vs a=>fD _ _ vs a (bG _ _)⟩
theorem Q5{H:Heap}{v:Value}{l:List Rat}(hv:aC bo 3 H v l)(hN:∀q,q∈l→(aJ q:Int)≤1099511627776)(hl:(l.length:Int)≤1099511627776):
 Fn Tryz.prog 129 #[v] H (Lr gI 3 H l):=by
 obtain⟨A,c,ys,rfl,hc,hr,gT⟩:=hv;refine aU (args:=[_]) Tryz.func129 rfl rfl Tryz.ntmps129 rfl rfl fun w0=> ?_;refine ag [0] rfl ?_;refine ae ?_;refine vr 1 ?_;refine ab [0] ?_;refine ae ?_;refine vr 2 ?_;refine jS Tryz.underlying26 cM rfl rfl rfl (by omega) (by omega) (by omega) (by omega) ?_;intro g hg;rw[show ((l.length:Int)).toNat=l.length from by omega];have hz:bI (jr gI (rem (ins H g ⟨de [.bool false,.slice none 0 0,.slice none 0 0] (l.length*3),l.length*3,31,true⟩) [g])) 3 (de [.bool false,.slice none 0 0,.slice none 0 0] (l.length*3)) (fill l 0):=DF (sz:=3) (by rfl) l;refine vr 1 ?_;refine ab [0,3] ?_;refine al ?_;refine ae ?_;refine vr 3 ?_;refine ab [3,9,10,11] ?_;refine aD ?_;refine jT (fun(k:Nat)(xs:List Value)=>l.length-k) (fun(k:Nat)(xs:List Value)=>put (put (put (put (emp) 3 (.val (.slice (some ⟨g,0,none⟩) l.length l.length))) 9 (.val (.slice A l.length c))) 10 (.val (.int .i64 (l.length:Int)))) 11 (.val (.int .i64 (k:Int)))) (fun(k:Nat)(xs:List Value) H'=>Heap.le H (rem H' [g])∧H' g=some ⟨xs,l.length*3,31,true⟩∧k≤l.length∧bI (jr gI (rem H' [g])) 3 xs (fill l k)) 0 _ (⟨by rw[se _ hg,gn];exact .refl _,bT _ _ _,Nat.zero_le _,hz⟩) au ?_;rintro k xs H1 ⟨hle,yr,hk,he⟩;have l7:=Bh (l:=l) (k:=k) hk
 have cj:=he.len;rw[l7]at cj;have nB:=hle.trans (bG H1 [g]);refine ae ?_;refine vr 1 ?_;refine ab [3,9,10,11,12] ?_;refine al ?_;refine az rfl (fun hb=> ?_) (fun hb=> ?_)
 ·
  have hb:k<l.length:=by simpa using hb
  obtain⟨q,dG⟩:∃q,l[k]? = some q:=⟨_,List.getElem?_eq_getElem hb⟩;obtain⟨vs,iu,qY,DG⟩:=gT.get dG;obtain⟨n1,d1,b1,rfl⟩:=qY.cells;have Ls:=qY.le hle;refine aw ?_;refine ag [3,9,10,11] rfl ?_;refine al ?_;refine aD ?_;refine ae ?_;refine vr 1 ?_;refine cI (vs:=[.int .i64 n1,.int .i64 d1,.pointer b1]) af rfl rfl rfl rfl (hr.le nB) rfl (by decide) DG (by omega) (by omega) fun _=> ?_;refine bh dT rfl ?_;refine vr 1 ?_;obtain⟨ti,aj,ak⟩:=bV;refine aG (.inl ⟨rfl,rfl⟩) rfl rfl rfl aj ak rfl rfl rfl ?_;refine ab [3,4,5,9,10,11] ?_;refine aE rfl ?_;refine vr 3 ?_;refine ar rfl rfl (Fn.frame (gs:=[g]) (fun q hq=>by simp only[List.mem_singleton]at hq;subst hq;rw[yr];simp) (K7 Ls (hN q (List.mem_of_getElem? dG)))) ?_;rintro v2 H2 ⟨⟨dP,bK⟩,eL⟩;obtain⟨u2,w2,rfl,eY,jY⟩:=id bK;obtain⟨A2,c2,rfl,o7,lQ⟩:=id eY;obtain⟨A3,c3,rfl,mB,iY⟩:=id jY;have eU:=(eL g (List.mem_singleton.2 rfl)).trans yr;obtain⟨ti,aj,ak⟩:=bM;refine eB (.inl rfl) af rfl rfl rfl (by omega) (by omega) (eU) rfl (by show 0+l.length*3≤xs.length;omega) aj ak (fun _=>rfl) rfl rfl rfl fun _=> ?_;refine aA ?_;refine ag [3,9,10,11] rfl ?_;refine aE rfl ?_;refine aN rfl rfl ⟨by omega,by omega⟩ ?_;refine vr 1 ?_;refine aA ?_
  refine⟨k+1,aF xs (k*3) [.bool (decide (q.num<0)),.slice A2 (ah q.num.natAbs).length c2,.slice A3 (ah q.den).length c3],by omega,au,?_,?_,by omega,?_⟩
  ·rw[cK _ (List.mem_singleton.2 rfl)];exact hle.trans dP
  ·rw[bT,Nat.zero_add];rfl
  ·
   rw[cK _ (List.mem_singleton.2 rfl),←Bi dG];exact(he.mono fun vs a=>jr.up ix _ _ vs a dP).set (by rw[l7];exact hb) (show gI _ _ q from bK) rfl
 ·
  have hb:l.length≤k:=by simpa using hb
  obtain rfl:k=l.length:=by omega
  refine bB ?_;refine ag [3] rfl ?_;refine ae ?_;refine vr 2 ?_;refine ab [2] ?_;refine aq ⟨.inr rfl,_,.tmp rfl (.nil),?_⟩;exact⟨hle.trans (bG _ _),some ⟨g,0,none⟩,l.length,xs,rfl,Nat.le_refl _,qX yr,(HJ he).mono fun vs a=>ix _ _ vs a (bG _ _)⟩
theorem HK{H:Heap}{u v:Value}{l1 l2:List Rat}{s:Nat}(hu:aC bo 3 H u l1)(hv:aC bo 3 H v l2)(hl:l1.length≤l2.length)(h1:∀q,q∈l1→aJ q≤s)(h2:∀q,q∈l2→aJ q≤s)(hs:((l1.length:Int)+2)*(2*s+2)≤1099511627776):
 Fn Tryz.prog 120 #[u,v] H (qa H (aX l1.length (fn l1) (fn l2))):=by
 obtain⟨A,c,ys,rfl,hc,hr,gT⟩:=hu
 obtain⟨A',c',ys',rfl,jg,dd,Lu⟩:=hv
 have tV:=Bk (f:=fn l1) (g:=fn l2) (s:=s) (n:=l1.length) (fun k hk=>⟨sD h1 hk,sD h2 (by omega)⟩)
 have fw:∀k,k≤l1.length→((k*(2*s+1)+1:Nat):Int)≤1099511627776:=fun k hk=>by
  have h3:k*(2*s+1)+1≤(l1.length+2)*(2*s+2):=by
   have h4:k*(2*s+1)≤l1.length*(2*s+2):=Nat.mul_le_mul hk (by omega)
   rw[Nat.add_mul];omega
  have h5:(((l1.length+2)*(2*s+2):Nat):Int)=((l1.length:Int)+2)*(2*s+2):=by push_cast;rfl
  omega
 have af2:(l1.length:Int)≤1099511627776:=by
  have h3:l1.length+2≤(l1.length+2)*(2*s+2):=Nat.le_mul_of_pos_right _ (by omega)
  have h5:(((l1.length+2)*(2*s+2):Nat):Int)=((l1.length:Int)+2)*(2*s+2):=by push_cast;rfl
  omega
 have eL:((2*(2*s+2):Nat):Int)≤1099511627776:=by
  have h3:2*(2*s+2)≤(l1.length+2)*(2*s+2):=Nat.mul_le_mul_right _ (by omega)
  have h5:(((l1.length+2)*(2*s+2):Nat):Int)=((l1.length:Int)+2)*(2*s+2):=by push_cast;rfl
  omega
 refine aU (args:=[_,_]) Tryz.func120 rfl rfl Tryz.ntmps120 rfl rfl fun w0=> ?_;refine ag [0,1] rfl ?_;refine ae ?_;refine bh dT rfl ?_;refine ab [0,1,4] ?_;refine ae ?_;refine ar rfl rfl (oy) ?_;rintro v1 H1 ⟨e1,rfl⟩;rw[e1];refine bh dT rfl ?_;obtain⟨ti,aj,ak⟩:=bV;refine aG (.inl ⟨rfl,rfl⟩) rfl rfl rfl aj ak rfl rfl rfl ?_;refine ab [0,1,4,5] ?_;refine al ?_;refine ae ?_;refine vr 3 ?_;refine ab [1,4,5,9,10,11] ?_;refine aD ?_;refine pQ (fun(k:Nat)(n5:Int)(d5:Int)(b5:Option Addr)=>l1.length-k) (fun(k:Nat)(n5:Int)(d5:Int)(b5:Option Addr)=>put (put (put (put (put (put (emp) 1 (.val (.slice A' l2.length c'))) 4 (.box [.int .i64 0,.int .i64 0,.pointer none])) 5 (.box [.int .i64 n5,.int .i64 d5,.pointer b5])) 9 (.val (.slice A l1.length c))) 10 (.val (.int .i64 (l1.length:Int)))) 11 (.val (.int .i64 (k:Int)))) (fun(k:Nat)(n5:Int)(d5:Int)(b5:Option Addr) H'=>Heap.le H H'∧k≤l1.length∧bo H' [.int .i64 n5,.int .i64 d5,.pointer b5] (aV k (fun j=>fn l1 j*fn l2 j))) 0 0 1 none (⟨.refl _,Nat.zero_le _,ow H (n:=0) (by decide) (by decide)⟩) au ?_;rintro k n5 d5 b5 H1 ⟨hle,hk,hn⟩;refine ae ?_;refine vr 1 ?_;refine ab [1,4,5,9,10,11,12] ?_;refine al ?_;refine az rfl (fun hb=> ?_) (fun hb=> ?_)
 ·
  have hb:k<l1.length:=by simpa using hb
  obtain⟨q,dG⟩:∃q,l1[k]? = some q:=⟨_,List.getElem?_eq_getElem hb⟩;obtain⟨vs,iu,qY,DG⟩:=gT.get dG;obtain⟨n1,d1,b1,rfl⟩:=qY.cells;obtain⟨q2,qZ⟩:∃q,l2[k]? = some q:=⟨_,List.getElem?_eq_getElem (by omega)⟩;obtain⟨Dv,af3,HL,Lv⟩:=Lu.get qZ;obtain⟨n2,d2,b2,rfl⟩:=HL.cells;have jI:=h1 q (List.mem_of_getElem? dG);have iK:=h2 q2 (List.mem_of_getElem? qZ);have HM:=tV k hk;have af4:=fw k hk;refine aw ?_;refine ag [1,4,5,9,10,11] rfl ?_;refine al ?_;refine aD ?_;refine ae ?_;refine vr 1 ?_;refine cI (vs:=[.int .i64 n1,.int .i64 d1,.pointer b1]) af rfl rfl rfl rfl (hr.le hle) rfl (by decide) DG (by omega) (by omega) fun _=> ?_;refine bh dT rfl ?_;refine vr 1 ?_;obtain⟨ti,aj,ak⟩:=bV;refine aG (.inl ⟨rfl,rfl⟩) rfl rfl rfl aj ak rfl rfl rfl ?_;refine ab [1,4,5,6,7,9,10,11] ?_
  by_cases gF:dF q=0
  ·
   skip
   refine ae ?_;refine vr 1 ?_;refine ar rfl rfl (iN (qY.le hle) (by omega)) ?_;rintro v2 H2 ⟨aM,rfl⟩;refine ax false rfl rfl (ko gF) ?_;refine vr 8 ?_;refine ab [1,4,5,6,7,9,10,11,26] ?_;have gS:=hle.trans aM
   have dY:bo H2 [.int .i64 n5,.int .i64 d5,.pointer b5] (aV k (fun j=>fn l1 j*fn l2 j)+0):=by rw[Rat.add_zero];exact hn.le aM
   have hz:q*q2=0:=by rw[wg gF,Rat.zero_mul]
   refine dg rfl ?_;refine aw ?_;refine ag [1,4,5,9,10,11] rfl ?_;refine aE rfl ?_;refine aN rfl rfl ⟨by omega,by omega⟩ ?_;refine vr 1 ?_;refine aA ?_;exact⟨k+1,n5,d5,b5,by omega,au,gS,by omega,by rw[fJ,gq dG,gq qZ,hz];exact dY⟩
  ·
   by_cases cn:dF q2=0
   skip
   ·
    skip
    refine ae ?_;refine vr 1 ?_;refine ar rfl rfl (iN (qY.le hle) (by omega)) ?_;rintro v2 H2 ⟨aM,rfl⟩;refine ax true rfl rfl (kn gF) ?_;refine vr 3 ?_;refine cI (vs:=[.int .i64 n2,.int .i64 d2,.pointer b2]) af rfl rfl rfl rfl (dd.le (hle.trans aM)) rfl (by decide) Lv (by omega) (by omega) fun _=> ?_;refine ar rfl rfl (iN (HL.le (hle.trans aM)) (by omega)) ?_;rintro v3 H3 ⟨a7,rfl⟩;refine ax false rfl rfl (ko cn) ?_;refine vr 1 ?_;refine ab [1,4,5,6,7,9,10,11,26] ?_;have gS:=(hle.trans aM).trans a7
    have dY:bo H3 [.int .i64 n5,.int .i64 d5,.pointer b5] (aV k (fun j=>fn l1 j*fn l2 j)+0):=by rw[Rat.add_zero];exact hn.le (aM.trans a7)
    have hz:q*q2=0:=by rw[wg cn,Rat.mul_zero]
    refine dg rfl ?_;refine aw ?_;refine ag [1,4,5,9,10,11] rfl ?_;refine aE rfl ?_;refine aN rfl rfl ⟨by omega,by omega⟩ ?_;refine vr 1 ?_;refine aA ?_;exact⟨k+1,n5,d5,b5,by omega,au,gS,by omega,by rw[fJ,gq dG,gq qZ,hz];exact dY⟩
   ·
    skip
    refine ae ?_;refine vr 1 ?_;refine ar rfl rfl (iN (qY.le hle) (by omega)) ?_;rintro v2 H2 ⟨aM,rfl⟩;refine ax true rfl rfl (kn gF) ?_;refine vr 3 ?_;refine cI (vs:=[.int .i64 n2,.int .i64 d2,.pointer b2]) af rfl rfl rfl rfl (dd.le (hle.trans aM)) rfl (by decide) Lv (by omega) (by omega) fun _=> ?_;refine ar rfl rfl (iN (HL.le (hle.trans aM)) (by omega)) ?_;rintro v3 H3 ⟨a7,rfl⟩;refine ax true rfl rfl (kn cn) ?_;refine vr 1 ?_;refine ab [1,4,5,6,7,9,10,11,26] ?_;have gS:=(hle.trans aM).trans a7;have dY:=hn.le (aM.trans a7);refine cD rfl ?_;refine eT .bn [0,1,2,3,4,5,6,7,8] follows (by kernel_rfl) ?_;refine vr 4 ?_;refine cI (vs:=[.int .i64 n2,.int .i64 d2,.pointer b2]) af rfl rfl rfl rfl (dd.le gS) rfl (by decide) Lv (by omega) (by omega) fun _=> ?_;refine aH rfl rfl (tY (N:=s) (qY.le gS) (HL.le gS) jI iK (by omega)) (fun _ _ h=>by first | exact h.le | exact h.1) ?_;rintro w3 G3 ⟨mH,Q6,rfl,fe⟩;obtain⟨n3,d3,b3,rfl,_⟩:=id fe;have hzm:=nx q q2;obtain⟨M,Lw,hM2,hM3⟩:∃M,aJ (aV k (fun j=>fn l1 j*fn l2 j))≤M∧aJ (q*q2)≤M∧(M:Int)≤1099511627776:=⟨max (k*(2*s+1)+1) (2*(2*s+2)),by omega,by omega,by omega⟩;refine aH rfl rfl (HI (N:=M) (dY.le mH) fe Lw hM2 hM3) (fun _ _ h=>by first | exact h.le | exact h.1) ?_
    rintro w4 G4 ⟨jx,we,rfl,bR⟩;obtain⟨n4,d4,b4,rfl,_⟩:=id bR;obtain⟨ti,aj,ak⟩:=bV;refine aG (.inl ⟨rfl,rfl⟩) rfl rfl rfl aj ak rfl rfl rfl ?_;refine aA ?_;refine ag [1,4,5,9,10,11] rfl ?_;refine aE rfl ?_;refine aN rfl rfl ⟨by omega,by omega⟩ ?_;refine vr 1 ?_;refine aA ?_;exact⟨k+1,n4,d4,b4,by omega,au,gS.trans (mH.trans jx),by omega,by rw[fJ,gq dG,gq qZ];exact bR⟩
 ·
  have hb:l1.length≤k:=by simpa using hb
  obtain rfl:k=l1.length:=by omega
  refine bB ?_;refine ag [4,5] rfl ?_;refine ae ?_;refine vr 1 ?_;obtain⟨ti,aj,ak⟩:=bV;refine aG (.inl ⟨rfl,rfl⟩) rfl rfl rfl aj ak rfl rfl rfl ?_;refine ab [4] ?_;obtain⟨bX,aK,aL⟩:=bV;refine aq ⟨.inr rfl,_,.agg rfl Tryz.underlying90 aK aL (.nil),?_⟩;exact⟨hle,_,rfl,hn⟩
end Go.ay
namespace Lp
namespace ao
def qg(T:ao)(j:Nat):Prop:=∃k,k<T.m∧T.B k=j
section
variable {T S:ao}
theorem Q7(hT:T.WF)(h:jq T S){i j:Nat}(hi:i<S.m)(hj:j≤T.n):S.A i j=aV T.m (fun k=>S.A i (T.B k)*T.A k j):=by
 have h1:=(h.mG _).2 (vX hT j hj) i hi
 rw[h.n,AP T hT.lt j hj]at h1
 grind
theorem aaF(hT:T.WF)(h:jq T S){j:Nat}(hj:j≤T.n):S.c j=T.c j+aV T.m (fun k=>S.c (T.B k)*T.A k j):=by
 have h1:=h.cost _ (vX hT j hj)
 rw[AQ hT j hj]at h1
 unfold cost at h1
 rw[h.n,AP T hT.lt j hj]at h1
 grind
theorem exchange(hT:T.WF)(hS:S.WF)(h:jq T S){i0:Nat}(hi:i0<S.m)(hn:¬T.qg (S.B i0)):∃r,r<T.m∧T.A r (S.B i0)≠0∧¬S.qg (T.B r):=by
 false_or_by_contra
 rename_i hc
 have bH:=hS.lt i0 hi
 have h1:=Q7 hT h hi (j:=S.B i0) (by rw[h.n]at bH;omega)
 rw[hS.unit i0 i0 hi hi,if_pos rfl,mE]at h1
 ·grind
 ·intro k hk
  by_cases e:T.A k (S.B i0)=0
  ·rw[e];grind
  ·by_cases hb:S.qg (T.B k)
   ·obtain⟨i',fR,e'⟩:=hb
    have bD:i0≠i':=fun e0=>hn ⟨k,hk,by rw[e0];exact e'.symm⟩
    rw[←e',hS.unit i' i0 fR hi,if_neg bD];grind
   ·exact absurd ⟨k,hk,e,hb⟩ hc
open Classical in
noncomputable def pd(T S:ao):Nat:=(List.range S.m).countP fun i=>decide (¬T.qg (S.B i))
theorem aaG{r s j:Nat}(h:T.qg j)(hj:j≠T.B r):(T.pivot r s).qg j:=by
 obtain⟨k,hk,e⟩:=h
 refine⟨k,hk,?_⟩
 show (if k=r then s else T.B k)=j
 rw[if_neg (fun e'=>hj (by rw[←e,e'])),e]
theorem aaH{r i0:Nat}(hr:r<T.m)(hi:i0<S.m)(hn:¬T.qg (S.B i0))(hb:¬S.qg (T.B r)):pd (T.pivot r (S.B i0)) S<pd T S:=by
 unfold pd
 refine QE _ _ _ (fun i mx hd=> ?_) ⟨i0,List.mem_range.2 hi,?_,?_⟩
 ·simp only[decide_eq_true_eq]at hd⊢
  exact fun gD=>hd (aaG gD (fun e=>hb ⟨i,List.mem_range.1 mx,e⟩))
 ·simp only[decide_eq_true_eq];exact hn
 ·simp only[decide_eq_false_iff_not,Classical.not_not]
  exact⟨r,hr,by show (if r=r then S.B i0 else T.B r)=_;rw[if_pos rfl]⟩
def dN(D X:Nat)(q:Rat):Prop:=∃z:Int,q*(D:Rat)=(z:Rat)∧z.natAbs≤X
def kU(n j k z:Nat):Nat:=if j=n then k else z
structure BdD(D0 f e D:Nat)(T:ao):Prop where
 pos:0<D
 le:D≤2^e
 A:∀i,i<T.m→∀j,j≤T.n→dN (D*kU T.n j D0 1) (2^(e+kU T.n j f 0)) (T.A i j)
 c:∀j,j≤T.n→dN (D*kU T.n j D0 1) (2^(e+kU T.n j f 0)) (T.c j)
def Bd(D0 f e:Nat)(T:ao):Prop:=∃D:Nat,BdD D0 f e D T
theorem Bl{n j k z:Nat}(h:j<n):kU n j k z=z:=if_neg (by omega)
theorem wh{n k z:Nat}:kU n n k z=k:=if_pos rfl
theorem dN.mono{D X Y:Nat}{q:Rat}(h:dN D X q)(hl:X≤Y):dN D Y q:=by
 obtain⟨z,h1,h2⟩:=h
 exact⟨z,h1,Nat.le_trans h2 hl⟩
theorem Bd.mono{D0 f e e':Nat}(h:Bd D0 f e T)(hl:e≤e'):Bd D0 f e' T:=by
 obtain⟨D,h1,h2,h3,h4⟩:=h
 have hp:∀k,2^(e+k)≤2^(e'+k):=fun k=>Nat.pow_le_pow_right (by decide) (by omega)
 exact⟨D,h1,Nat.le_trans h2 (hp 0),fun i hi j hj=>(h3 i hi j hj).mono (hp _),fun j hj=>(h4 j hj).mono (hp _)⟩
theorem natAbs_sub_le(a b:Int):(a-b).natAbs≤a.natAbs+b.natAbs:=by omega
theorem Lx{D K:Nat}{N z1 z2 z3:Int}{a b c d:Rat}{X Y:Nat}(hD:(D:Rat)≠0)(hN:(N:Rat)≠0)(h:d*(D:Rat)=(N:Rat))(h1:a*((D*K:Nat):Rat)=(z1:Rat))(h2:b*(D:Rat)=(z2:Rat))(h3:c*((D*K:Nat):Rat)=(z3:Rat))
  (k1:z1.natAbs≤Y) (k2:z2.natAbs≤X) (k3:z3.natAbs≤Y) (k:N.natAbs≤X):dN (D*N.natAbs*K) (2*(X*Y)) (a-b*(c/d)):=by
 refine⟨N.sign*(z1*N-z2*z3),?_,?_⟩
 ·have e1:((D*N.natAbs*K:Nat):Rat)=(D:Rat)*((N.sign:Rat)*(N:Rat))*(K:Rat):=by
   have eC:(N.natAbs:Int)=N.sign*N:=by
    rcases Int.lt_trichotomy N 0 with h | h | h
    ·rw[Int.sign_eq_neg_one_of_neg h];omega
    ·subst h;rfl
    ·rw[Int.sign_eq_one_of_pos h];omega
   have:((N.natAbs:Int):Rat)=((N.sign*N:Int):Rat):=by rw[eC]
   rw[Rat.natCast_mul,Rat.natCast_mul]
   have h0:((N.natAbs:Nat):Rat)=((N.natAbs:Int):Rat):=rfl
   rw[h0,this,Rat.intCast_mul]
  have hd:d≠0:=fun e=>by rw[e]at h;grind
  rw[Rat.natCast_mul]at h1 h3
  rw[e1,Rat.intCast_mul,Rat.intCast_sub,Rat.intCast_mul,Rat.intCast_mul,←h1,←h2,←h3,←h]
  grind
 ·have hs:N.sign.natAbs≤1:=by
   rw[Int.natAbs_sign];split <;> omega
  rw[Int.natAbs_mul]
  have h4:=natAbs_sub_le (z1*N) (z2*z3)
  rw[Int.natAbs_mul,Int.natAbs_mul]at h4
  have h5:z1.natAbs*N.natAbs≤X*Y:=by rw[Nat.mul_comm];exact Nat.mul_le_mul k k1
  have h6:z2.natAbs*z3.natAbs≤X*Y:=Nat.mul_le_mul k2 k3
  have h7:N.sign.natAbs*(z1*N-z2*z3).natAbs≤1*(z1*N-z2*z3).natAbs:=Nat.mul_le_mul_right _ hs
  omega
theorem Ly(e f:Nat):2*(2^e*2^(e+f))=2^(2*e+1+f):=by
 rw[show 2*e+1+f=(e+(e+f))+1 by omega,Nat.pow_succ,Nat.pow_add 2 e (e+f),Nat.mul_comm]
theorem Bd.pivot{D0 f e r s:Nat}(h:Bd D0 f e T)(hr:r<T.m)(hs:s<T.n)(hp:T.A r s≠0):Bd D0 f (2*e+1) (T.pivot r s):=by
 obtain⟨D,h1,h2,h3,h4⟩:=h
 have one:∀{q:Rat},dN (D*kU T.n s D0 1) (2^(e+kU T.n s f 0)) q→dN D (2^e) q:=fun h=>by rwa [Bl hs,Bl hs,Nat.mul_one]at h
 obtain⟨N,hN,HN⟩:=one (h3 r hr s (by omega))
 have hD:(D:Rat)≠0:=fun e=>by
  have:D=0:=by exact_mod_cast e
  omega
 have HO:(N:Rat)≠0:=by
  rw[←hN]
  intro e0
  rcases Rat.mul_eq_zero.1 e0 with h | h
  ·exact hp h
  ·exact hD h
 have hNz:N≠0:=fun e=>HO (by rw[e];rfl)
 refine⟨D*N.natAbs,Nat.mul_pos h1 (by omega),?_,fun i hi j hj=> ?_,fun j hj=> ?_⟩
 ·have:=Ly e 0
  rw[Nat.add_zero,Nat.add_zero]at this
  rw[←this]
  have:=Nat.mul_le_mul h2 HN
  omega
 ·show dN (D*N.natAbs*kU T.n j D0 1) (2^(2*e+1+kU T.n j f 0)) _
  rw[←Ly]
  obtain⟨z3,k3,l3⟩:=h3 r hr j hj
  show dN _ _ (if i=r then T.A r j/T.A r s else T.A i j-T.A i s*(T.A r j/T.A r s))
  by_cases e':i=r
  ·rw[if_pos e']
   have e3:(-1:Rat)*(D:Rat)=((-(D:Int):Int):Rat):=by
    rw[Rat.intCast_neg]
    have:((D:Int):Rat)=(D:Rat):=rfl
    rw[this];grind
   have:=Lx (z1:=0) (a:=0) (z2:= -(D:Int)) (b:= -1) hD HO hN (by grind) e3 k3 (by omega) (by omega) l3 HN
   have e2:(0:Rat) - -1*(T.A r j/T.A r s)=T.A r j/T.A r s:=by grind
   rwa [e2]at this
  ·rw[if_neg e']
   obtain⟨z1,k1,l1⟩:=h3 i hi j hj
   obtain⟨z2,k2,l2⟩:=one (h3 i hi s (by omega))
   exact Lx hD HO hN k1 k2 k3 l1 l2 l3 HN
 ·show dN (D*N.natAbs*kU T.n j D0 1) (2^(2*e+1+kU T.n j f 0)) _
  rw[←Ly]
  obtain⟨z3,k3,l3⟩:=h3 r hr j hj
  obtain⟨z1,k1,l1⟩:=h4 j hj
  obtain⟨z2,k2,l2⟩:=one (h4 s (by omega))
  exact Lx hD HO hN k1 k2 k3 l1 l2 l3 HN
theorem reach{D0 f:Nat}(hS:S.WF):∀(k e:Nat)(T:ao),T.WF→jq T S→Bd D0 f e T→pd T S≤k→∃T':ao,T'.WF∧jq T' S∧(∀i,i<S.m→T'.qg (S.B i))∧Bd D0 f (2^k*(e+1)-1) T':=by
 intro k
 induction k with
 | zero=>
  intro e T hT h hb hc
  refine⟨T,hT,h,fun i hi=> ?_,by rw[Nat.pow_zero,Nat.one_mul];exact hb⟩
  false_or_by_contra
  rename_i hn
  have:0<pd T S:=by
   unfold pd
   exact List.countP_pos_iff.2 ⟨i,List.mem_range.2 hi,by simp only[decide_eq_true_eq];exact hn⟩
  omega
 | succ k ih=>
  intro e T hT h hb hc
  by_cases ha:∀i,i<S.m→T.qg (S.B i)
  ·refine⟨T,hT,h,ha,hb.mono ?_⟩
   have:1*(e+1)≤2^(k+1)*(e+1):=Nat.mul_le_mul_right _ Nat.one_le_two_pow
   omega
  ·obtain⟨i0,ha⟩:=Classical.not_forall.1 ha
   obtain⟨hi,hn⟩:=Classical.not_imp.1 ha
   obtain⟨r,hr,hp,rZ⟩:=exchange hT hS h hi hn
   have bH:=hS.lt i0 hi
   rw[h.n]at bH
   obtain⟨T',h1,h2,h3,h4⟩:=ih (2*e+1) (T.pivot r (S.B i0)) (AR hT hr bH hp) ((jq.pivot hr hp).symm.trans h) (hb.pivot hr bH hp) (by have:=aaH hr hi hn rZ;omega)
   refine⟨T',h1,h2,h3,?_⟩
   have e2:2^k*(2*e+1+1)=2^(k+1)*(e+1):=by
    rw[Nat.pow_succ,Nat.mul_assoc]
    congr 1
   rwa [e2]at h4
theorem aaI{D0 f e k:Nat}(hT:T.WF)(hS:S.WF)(h:jq T S)(hb:Bd D0 f e T)(hk:pd T S≤k):Bd D0 f (2^k*(e+1)-1) S:=by
 obtain⟨T',h1,h2,h3,D,hD,hX,hA,hC⟩:=reach hS k e T hT h hb hk
 have gD:∀i,i<S.m→∀k,k<T'.m→∀i',i'<S.m→T'.B k=S.B i→T'.A k (S.B i')=if i'=i then 1 else 0:=by
  intro i hi k hk i' fR e
  obtain⟨k',jR,e'⟩:=h3 i' fR
  rw[←e',h1.unit k' k jR hk]
  by_cases e0:i'=i
  ·rw[if_pos e0,if_pos (h1.inj hk jR (by rw[e,e',e0]))]
  ·rw[if_neg e0,if_neg (fun e1=>e0 (hS.inj fR hi (by rw[←e',←e,e1])))]
 refine⟨D,hD,hX,fun i hi j hj=> ?_,fun j hj=> ?_⟩
 ·obtain⟨k,hk,e⟩:=h3 i hi
  have h4:=Q7 hS h2.symm (i:=k) (j:=j) hk hj
  rw[qd (k:=i) hi _ (fun i' fR bD=>by rw[gD i hi k hk i' fR e,if_neg bD];grind),gD i hi k hk i hi e,if_pos rfl]at h4
  have h5:=hA k hk j (by rw[←h2.n];exact hj)
  rw[h4,←h2.n]at h5
  have e6:1*S.A i j=S.A i j:=by grind
  rwa [e6]at h5
 ·have h4:=aaF hS h2.symm (j:=j) hj
  rw[mE]at h4
  ·have h5:=hC j (by rw[←h2.n];exact hj)
   rw[h4,←h2.n]at h5
   have e6:S.c j+0=S.c j:=by grind
   rwa [e6]at h5
  ·intro i hi
   obtain⟨k,hk,e⟩:=h3 i hi
   rw[←e,h1.zero k hk];grind
theorem aaJ(T S:ao):pd T S≤S.m:=by
 unfold pd
 exact Nat.le_trans List.countP_le_length (by rw[List.length_range];exact Nat.le_refl _)
theorem Q8:∀(n:Nat)(l:List Nat),l.Nodup→(∀x,x∈l→x<n)→l.length≤n
 | 0,l,_,h=>by
  cases l with
  | nil=>exact Nat.le_refl _
  | cons x l=>exact absurd (h x (List.mem_cons_self ..)) (Nat.not_lt_zero _)
 | n+1,l,hd,h=>by
  have h1:=Q8 n (l.erase n) (hd.erase n) fun x hx=>by
   have h2:=(hd.mem_erase_iff).1 hx
   have:=h x h2.2
   have:=h2.1
   omega
  have h2:l.length≤(l.erase n).length+1:=by
   rw[List.length_erase];split <;> omega
  omega
theorem LA{f:Nat→Nat}:∀{l:List Nat},l.Nodup→(∀x,x∈l→∀y,y∈l→f x=f y→x=y)→(l.map f).Nodup
 | [],_,_=>List.nodup_nil
 | x::l,h,hi=>by
  rw[List.nodup_cons]at h
  rw[List.map_cons,List.nodup_cons]
  refine⟨fun hm=> ?_,LA h.2 fun y hy z hz=>hi y (List.mem_cons_of_mem _ hy) z (List.mem_cons_of_mem _ hz)⟩
  obtain⟨y,hy,e⟩:=List.mem_map.1 hm
  have:=hi y (List.mem_cons_of_mem _ hy) x (List.mem_cons_self ..) e
  exact h.1 (this▸hy)
open Classical in
theorem aaK(hT:T.WF)(hS:S.WF)(h:jq T S):pd T S+T.m≤T.n:=by
 unfold pd
 rw[List.countP_eq_length_filter]
 generalize hl:(List.range S.m).filter (fun i=>decide (¬T.qg (S.B i)))=l
 have yt:∀i,i∈l→i<S.m∧¬T.qg (S.B i):=fun i hi=>by
  rw[←hl,List.mem_filter]at hi
  exact⟨List.mem_range.1 hi.1,of_decide_eq_true hi.2⟩
 have LB:l.Nodup:=by rw[←hl];exact List.Pairwise.filter _ List.nodup_range
 have h1:=Q8 T.n (l.map S.B++(List.range T.m).map T.B) ?_ ?_
 ·rwa [List.length_append,List.length_map,List.length_map,List.length_range]at h1
 ·rw[List.nodup_append]
  refine⟨LA LB fun x hx y hy e=>hS.inj (yt x hx).1 (yt y hy).1 e,LA List.nodup_range fun x hx y hy e=>hT.inj (List.mem_range.1 hx) (List.mem_range.1 hy) e,fun a ha b hb e=> ?_⟩
  obtain⟨i,hi,rfl⟩:=List.mem_map.1 ha
  obtain⟨k,hk,rfl⟩:=List.mem_map.1 hb
  exact(yt i hi).2 ⟨k,List.mem_range.1 hk,e.symm⟩
 ·intro x hx
  rcases List.mem_append.1 hx with hx | hx
  ·obtain⟨i,hi,rfl⟩:=List.mem_map.1 hx
   have:=hS.lt i (yt i hi).1
   rw[←h.n];exact this
  ·obtain⟨i,hi,rfl⟩:=List.mem_map.1 hx
   exact hT.lt i (List.mem_range.1 hi)
theorem aaL{D X:Nat}{q:Rat}(hD:0<D)(h:dN D X q):q.num.natAbs≤X∧q.den≤D:=by
 obtain⟨z,h1,h2⟩:=h
 have hD':(D:Rat)≠0:=fun e=>by
  have:D=0:=by exact_mod_cast e
  omega
 have e:mkRat z D=q:=by
  rw[Rat.mkRat_eq_div]
  grind
 obtain⟨k,hk,h3,h4⟩:=Rat.mkRat_num_den (n:=z) (d:=D) (by omega) (n':=q.num) (d':=q.den) (z':=q.den_nz) (c:=q.reduced) e
 refine⟨?_,?_⟩
 ·rw[h3,Int.natAbs_mul,Int.natAbs_natCast]at h2
  exact Nat.le_trans (Nat.le_mul_of_pos_right _ (by omega)) h2
 ·rw[h4]
  exact Nat.le_mul_of_pos_right _ (by omega)
def wt(q:Rat):Nat:=q.num.natAbs.log2+q.den.log2+2
theorem aaM(q:Rat):q.num.natAbs≤2^wt q:=by
 have h1:=Nat.lt_log2_self (n:=q.num.natAbs)
 have h2:=Nat.pow_le_pow_right (n:=2) (by decide) (show q.num.natAbs.log2+1≤wt q by unfold wt;omega)
 omega
theorem aaN(q:Rat):q.den≤2^wt q:=by
 have h1:=Nat.lt_log2_self (n:=q.den)
 have h2:=Nat.pow_le_pow_right (n:=2) (by decide) (show q.den.log2+1≤wt q by unfold wt;omega)
 omega
def dt:List Rat→Nat
 | []=>0
 | q::l=>wt q+dt l
def fo:List Rat→Nat
 | []=>1
 | q::l=>q.den*fo l
theorem DH(l:List Rat):0<fo l:=by
 induction l with
 | nil=>exact Nat.one_pos
 | cons q l ih=>exact Nat.mul_pos (Nat.pos_of_ne_zero q.den_nz) ih
theorem yu(l:List Rat):fo l≤2^dt l:=by
 induction l with
 | nil=>exact Nat.le_refl _
 | cons q l ih=>
  simp only[fo,dt,Nat.pow_add]
  exact Nat.mul_le_mul (aaN q) ih
theorem aaO{l:List Rat}{q:Rat}(h:q∈l):∃k,fo l=q.den*k:=by
 induction l with
 | nil=>cases h
 | cons r l ih=>
  rcases List.mem_cons.1 h with rfl | h
  ·exact⟨_,rfl⟩
  ·obtain⟨k,hk⟩:=ih h
   exact⟨r.den*k,by simp only[fo,hk];rw[Nat.mul_left_comm]⟩
theorem aaP{l:List Rat}{q:Rat}(h:q∈l):wt q≤dt l:=by
 induction l with
 | nil=>cases h
 | cons r l ih=>
  simp only[dt]
  rcases List.mem_cons.1 h with rfl | h
  ·omega
  ·have:=ih h;omega
theorem HP{l:List Rat}{q:Rat}(h:q∈l):dN (fo l) (2^(2*dt l)) q:=by
 obtain⟨k,hk⟩:=aaO h
 refine⟨q.num*k,?_,?_⟩
 ·rw[hk,Rat.natCast_mul,Rat.intCast_mul]
  have h1:q*(q.den:Rat)=(q.num:Rat):=by
   have hd:(q.den:Rat)≠0:=fun e=>q.den_nz (by exact_mod_cast e)
   have e:=Rat.mkRat_self q
   rw[Rat.mkRat_eq_div]at e
   grind
  have h2:((k:Int):Rat)=(k:Rat):=rfl
  rw[h2,←h1];grind
 ·rw[Int.natAbs_mul,Int.natAbs_natCast]
  have h1:=aaM q
  have h2:=Nat.pow_le_pow_right (n:=2) (by decide) (aaP h)
  have h3:k≤fo l:=by
   rw[hk];exact Nat.le_mul_of_pos_left _ (Nat.pos_of_ne_zero q.den_nz)
  have h4:=yu l
  rw[Nat.two_mul,Nat.pow_add]
  exact Nat.mul_le_mul (Nat.le_trans h1 h2) (Nat.le_trans h3 h4)
theorem Q9(l:List Rat)(z:Int)(hz:z.natAbs≤1):dN (fo l) (2^(2*dt l)) (z:Rat):=by
 refine⟨z*fo l,?_,?_⟩
 ·rw[Rat.intCast_mul];rfl
 ·rw[Int.natAbs_mul,Int.natAbs_natCast]
  have h1:z.natAbs*fo l≤1*fo l:=Nat.mul_le_mul_right _ hz
  have h2:=yu l
  have h3:=Nat.pow_le_pow_right (n:=2) (by decide) (show dt l≤2*dt l by omega)
  omega
theorem dN.neg{D X:Nat}{q:Rat}(h:dN D X q):dN D X (-q):=by
 obtain⟨z,h1,h2⟩:=h
 exact⟨-z,by rw[Rat.intCast_neg,←h1];grind,by omega⟩
theorem dN.sub{D X Y:Nat}{q r:Rat}(h:dN D X q)(k:dN D Y r):dN D (X+Y) (q-r):=by
 obtain⟨z,h1,h2⟩:=h
 obtain⟨y,k1,k2⟩:=k
 exact⟨z-y,by rw[Rat.intCast_sub,←h1,←k1];grind,by omega⟩
theorem yw(D X:Nat):dN D X 0:=⟨0,by grind,by simp⟩
theorem aaQ{D X:Nat}(m:Nat)(f:Nat→Rat)(h:∀i,i<m→dN D X (f i)):dN D (m*X) (aV m f):=by
 induction m with
 | zero=>rw[vW];exact yw _ _
 | succ m ih=>
  rw[fJ,Nat.succ_mul]
  obtain⟨z,h1,h2⟩:=ih (fun i hi=>h i (by omega))
  obtain⟨y,k1,k2⟩:=h m (by omega)
  exact⟨z+y,by rw[Rat.intCast_add,←h1,←k1];grind,by omega⟩
end
end ao
end Lp
namespace Go.ay
open Go.Proofs Num Lp
def aT(f:Nat→Rat)(n:Nat):List Rat:=(List.range n).map f
theorem cS(f:Nat→Rat)(n:Nat):(aT f n).length=n:=by simp[aT]
theorem fp{f:Nat→Rat}{n j:Nat}(h:j<n):(aT f n)[j]? = some (f j):=by simp[aT,h]
theorem ks{f g:Nat→Rat}{n:Nat}(h:∀j,j<n→f j=g j):aT f n=aT g n:=by
 apply List.ext_getElem?
 intro j
 by_cases hj:j<n
 ·rw[fp hj,fp hj,h j hj]
 ·rw[List.getElem?_eq_none (by rw[cS];omega),List.getElem?_eq_none (by rw[cS];omega)]
theorem Bm{f:Nat→Rat}{n j:Nat}(h:j<n):fn (aT f n) j=f j:=gq (fp h)
def iZ(f g:Nat→Rat)(k:Nat)(j:Nat):Rat:=if j<k then f j else g j
theorem Ra{f g:Nat→Rat}{n k:Nat}:(aT (iZ f g k) n).set k (f k)=aT (iZ f g (k+1)) n:=by
 apply List.ext_getElem?
 intro j
 by_cases hj:j<n
 ·by_cases e:j=k
  ·subst e
   rw[List.getElem?_set_self (by rw[cS];exact hj),fp hj]
   simp[iZ]
  ·rw[List.getElem?_set_ne (fun e'=>e e'.symm),fp hj,fp hj]
   unfold iZ
   by_cases h:j<k
   ·rw[if_pos h,if_pos (by omega)]
   ·rw[if_neg h,if_neg (by omega)]
 ·rw[List.getElem?_eq_none (by rw[List.length_set,cS];omega),List.getElem?_eq_none (by rw[cS];omega)]
theorem Rb{f g:Nat→Rat}{n k:Nat}(h:f k=g k):aT (iZ f g k) n=aT (iZ f g (k+1)) n:=ks fun j _=>by
 unfold iZ
 by_cases e:j=k
 ·subst e;rw[if_neg (by omega),if_pos (by omega),h]
 ·by_cases h':j<k
  ·rw[if_pos h',if_pos (by omega)]
  ·rw[if_neg h',if_neg (by omega)]
theorem Rc{f g:Nat→Rat}{n:Nat}:aT (iZ f g 0) n=aT g n:=ks fun j _=>by simp[iZ]
theorem Re{f g:Nat→Rat}{n:Nat}:aT (iZ f g n) n=aT f n:=ks fun j hj=>by simp[iZ,hj]
def kt(K:Heap)(H:Heap)(g:Nat)(l:List Rat):Prop:=∃xs sz,H g=some ⟨xs,sz,90,true⟩∧bI (bo K) 3 xs l
theorem kt.le{K K' H H':Heap}{g:Nat}{l:List Rat}(h:kt K H g l)(hl:Heap.le K K')(hs:H' g=H g):kt K' H' g l:=by
 obtain⟨xs,sz,h1,h2⟩:=h
 exact⟨xs,sz,by rw[hs];exact h1,h2.mono fun vs a=>fD _ _ vs a hl⟩
theorem kt.rd{K H:Heap}{g:Nat}{l:List Rat}(h:kt K H g l){i:Nat}{q:Rat}(hq:l[i]? = some q):∃xs n d b,Rd H (some ⟨g,0,none⟩) xs∧bo K [.int .i64 n,.int .i64 d,.pointer b] q∧∀(j:Nat)(v:Value),[.int .i64 n,.int .i64 d,.pointer b][j]? = some v→xs[i*3+j]? = some v:=by
 obtain⟨xs,sz,h1,h2⟩:=h
 obtain⟨vs,_,h3,h4⟩:=h2.get hq
 obtain⟨n,d,b,rfl⟩:=h3.cells
 exact⟨xs,n,d,b,qX h1,h3,h4⟩
structure Kept(gs:List Nat)(H H':Heap):Prop where
 le:Heap.le (rem H gs) (rem H' gs)
 same:∀q,q∈gs→H' q=H q
structure l8(gs:List Nat)(g:Nat)(H H':Heap):Prop where
 le:Heap.le (rem H gs) (rem H' gs)
 same:∀q,q∈gs→q≠g→H' q=H q
theorem Kept.refl(gs:List Nat)(H:Heap):Kept gs H H:=⟨.refl _,fun _ _=>rfl⟩
theorem Kept.trans{gs:List Nat}{A B C:Heap}(h:Kept gs A B)(k:Kept gs B C):Kept gs A C:=⟨h.le.trans k.le,fun q hq=>(k.same q hq).trans (h.same q hq)⟩
theorem l8.trans{gs:List Nat}{g:Nat}{A B C:Heap}(h:l8 gs g A B)(k:l8 gs g B C):l8 gs g A C:=⟨h.le.trans k.le,fun q hq bD=>(k.same q hq bD).trans (h.same q hq bD)⟩
theorem Kept.pe{gs:List Nat}{H H':Heap}(h:Kept gs H H')(g:Nat):l8 gs g H H':=⟨h.le,fun q hq _=>h.same q hq⟩
theorem l8.ins{gs:List Nat}{g:Nat}{H H':Heap}(h:l8 gs g H H')(hg:g∈gs)(e:aQ):l8 gs g H (ins H' g e):=
 ⟨by rw[cK _ hg];exact h.le,fun q hq bD=>by rw[bP _ _ bD];exact h.same q hq bD⟩
theorem Kept.of{gs:List Nat}{H H':Heap}{v:Value}{bt:Value→Heap→Prop}(h:vS gs bt H v H')(hl:∀v K,bt v K→Heap.le (rem H gs) K):Kept gs H H':=⟨hl _ _ h.post,h.same⟩
theorem Kept.ne{gs:List Nat}{H H':Heap}(h:Kept gs H H')(hn:∀q,q∈gs→H q≠none):∀q,q∈gs→H' q≠none:=fun q hq=>by rw[h.same q hq];exact hn q hq
structure Rf(gs:List Nat)(H:Heap)(q:Rat)(v:Value)(H':Heap):Prop where
 kept:Kept gs H H'
 le:Heap.le H H'
 val:∃n d b,v=N3 n d b∧bo (rem H' gs) [.int .i64 n,.int .i64 d,.pointer b] q
structure FrI(gs:List Nat)(H:Heap)(x:Value)(v:Value)(H':Heap):Prop where
 kept:Kept gs H H'
 le:Heap.le H H'
 val:v=x
theorem Fn.iy{P:Program}{f:FuncId}{args:Array Value}{H:Heap}{gs:List Nat}{q:Rat}(sh:∀g,g∈gs→H g≠none)(h:Fn P f args (rem H gs) (qa (rem H gs) q)):Fn P f args H (Rf gs H q):=
 (Fn.frame sh h).mono fun v H' hf=>by
  refine⟨.of hf fun v K hp=>hp.1,hf.le fun v K hp=>hp.1,?_⟩
  obtain⟨_,vs,rfl,hn⟩:=hf.post
  obtain⟨n,d,b,rfl⟩:=hn.cells
  exact⟨n,d,b,rfl,hn⟩
theorem Fn.qh{P:Program}{f:FuncId}{args:Array Value}{H:Heap}{gs:List Nat}{x:Value}(sh:∀g,g∈gs→H g≠none)(h:Fn P f args (rem H gs) (fun v H'=>Heap.le (rem H gs) H'∧v=x)):Fn P f args H (FrI gs H x):=
 (Fn.frame sh h).mono fun v H' hf=>⟨.of hf fun v K hp=>hp.1,hf.le fun v K hp=>hp.1,hf.post.2⟩
theorem kt.set{K H:Heap}{g:Nat}{f b:Nat→Rat}{n k:Nat}{xs:List Value}{sz:Nat}(h2:bI (bo K) 3 xs (aT (iZ f b k) n))(hk:k<n){vs:List Value}(hv:bo K vs (f k))(e:H g=some ⟨aF xs (k*3) vs,sz,90,true⟩):kt K H g (aT (iZ f b (k+1)) n):=by
 refine⟨_,_,e,?_⟩
 rw[←Ra]
 exact h2.set (by rw[cS];exact hk) hv hv.len
end Go.ay
namespace Go.ay
open Go.Proofs Num Lp
theorem Rg{H:Heap}{gs:List Nat}{g gl gr:Nat}{ts:List Value}{Ar:Option Addr}{m cr:Nat}{oA:List Value}{row n c1 cl N:Nat}{a b:Nat→Rat}{fs:List Value}{f:Rat}
 (bD:∀q,q∈gs→H q≠none) (hg:g∈gs) (ua:gl∈gs) (Rh:gr∈gs) (yt:gl≠gr) (wi:g≠gl) (ht:H g=some ⟨ts,9,97,true⟩) (ht6:ts[6]? = some (.slice Ar m cr)) (oX:Rd (rem H gs) Ar oA) (lE:row<m) (iJ:oA[row]? = some (.slice (some ⟨gr,0,none⟩) n c1))
 (rZ:kt (rem H gs) H gr (aT a n)) (nt:kt (rem H gs) H gl (aT b n)) (hf:bo (rem H gs) fs f) (hN:(N:Int)≤549755813888) (hn:(n:Int)≤1099511627776) (sf:aJ f≤N) (sa:∀j,j<n→aJ (a j)≤N) (sb:∀j,j<n→aJ (b j)≤N):
 Fn Tryz.prog 125 #[.pointer (some ⟨g,0,none⟩),.slice (some ⟨gl,0,none⟩) n cl,.int .i64 (row:Int),.agg fs.toArray] H (fun _ H'=>l8 gs gl H H'∧kt (rem H' gs) H' gl (aT (fun j=>b j-f*a j) n)):=by
 obtain⟨nf,df,bf,rfl⟩:=hf.cells;refine aU (args:=[_,_,_,_]) Tryz.func125 rfl rfl Tryz.ntmps125 rfl rfl fun w0=> ?_;refine ag [0,1,2,3] rfl ?_;refine ae ?_;refine bF rfl rfl ?_;refine ab [0,1,2,7] ?_;refine al ?_;refine ae ?_;refine vr 1 ?_;refine ar rfl rfl (Fn.qh bD (iN hf (by omega))) ?_;rintro v1 H1 ⟨iU,aI,rfl⟩;refine vr 1 ?_;refine ab [0,1,2,7,12] ?_;refine az rfl (fun hb=> ?_) (fun hb=> ?_)
 ·
  have hb:f=0:=wg (by simpa using hb);refine aq ⟨.inr rfl,_,.nil,?_⟩;exact⟨iU.pe gl,by rw[ks (g:=b) (fun j _=>by rw[hb];grind)];exact nt.le iU.le (iU.same gl ua)⟩
 ·
  skip
  refine aw ?_;refine ag [0,1,2,7] rfl ?_;refine ae ?_;refine vr 2 ?_;refine bJ af rfl rfl rfl ?_;refine aZ af rfl rfl rfl (by rw[show cell H1 ((⟨g,0,none⟩:Addr).add 6)=ts[6]? by simp[cell,kQ,iU.same g hg,ht]];exact ht6) ?_;refine vr 1 ?_;refine a6 af rfl rfl rfl rfl rfl ((oX.le iU.le).le (bG _ _)) (by rw[Int.toNat_natCast];exact iJ) (by omega) (by omega) fun _=> ?_;refine vr 2 ?_;refine ab [1,7,19,20,21] ?_;have aaR:=rZ.le iU.le (iU.same gr Rh);have aaS:=nt.le iU.le (iU.same gl ua);have jG:=hf.le iU.le;have aaT:=iU.ne bD;clear rZ nt hf bD ht oX;refine aD ?_;refine ft (fun(k:Nat)=>n-k) (fun(k:Nat)=>put (put (put (put (put (emp) 1 (.val (.slice (some ⟨gl,0,none⟩) n cl))) 7 (.box [.int .i64 nf,.int .i64 df,.pointer bf])) 19 (.val (.slice (some ⟨gr,0,none⟩) n c1))) 20 (.val (.int .i64 (n:Int)))) 21 (.val (.int .i64 (k:Int)))) (fun(k:Nat) H'=>l8 gs gl H1 H'∧kt (rem H' gs) H' gl (aT (iZ (fun j=>b j-f*a j) b k) n)∧k≤n) 0 (⟨(Kept.refl _ _).pe _,by rw[Rc];exact aaS,Nat.zero_le _⟩) au ?_;rintro k H2 ⟨gX,aW,jf⟩;have aaU:=aaR.le gX.le (gX.same gr Rh (Ne.symm yt));have kj:=jG.le gX.le
  have ub:∀q,q∈gs→H2 q≠none:=fun q hq=>by
   by_cases e:q=gl
   ·
    obtain⟨xs,sz,h,_⟩:=aW;rw[e,h];simp
   ·rw[gX.same q hq e];exact aaT q hq
  refine ae ?_;refine vr 1 ?_;refine ab [1,7,19,20,21,22] ?_;refine al ?_;refine az rfl (fun hb=> ?_) (fun hb=> ?_)
  ·
   have fK:k<n:=by simpa using hb
   obtain⟨xr,na,da,ba,yy,wj,hxr⟩:=aaU.rd (fp fK);obtain⟨xl,nl,dl,bl,lF,Bn,cj⟩:=aW.rd (fp fK);rw[show iZ (fun j=>b j-f*a j) b k k=b k by simp[iZ]]at Bn;have LC:=sa k fK;have Ri:=sb k fK;refine aw ?_;refine ag [1,7,19,20,21] rfl ?_;refine al ?_;refine aD ?_;refine ae ?_;refine vr 1 ?_;refine cI (vs:=[.int .i64 na,.int .i64 da,.pointer ba]) af rfl rfl rfl rfl yy rfl (by decide) hxr (by omega) (by omega) fun _=> ?_;refine bh dT rfl ?_;refine vr 1 ?_;obtain⟨ti,aj,ak⟩:=bV;refine aG (.inl ⟨rfl,rfl⟩) rfl rfl rfl aj ak rfl rfl rfl ?_;refine ab [1,7,8,9,19,20,21] ?_;refine ae ?_;refine vr 1 ?_;refine ar rfl rfl (Fn.qh ub (iN wj (by omega))) ?_;rintro v3 H3 ⟨eG,a7,rfl⟩;have HQ:=eG.ne ub;have vu:=kj.le eG.le;have aaV:=wj.le eG.le;have aaW:=Bn.le eG.le;refine vr 1 ?_;refine ab [1,7,8,9,19,20,21,28] ?_;refine az rfl (fun hb=> ?_) (fun hb=> ?_)
   ·
    skip
    refine eT .gO [0,1,2,3,4,5,6,7,8,9,10,11] follows (by kernel_rfl) ?_;refine vr 4 ?_;refine cI (vs:=[.int .i64 nl,.int .i64 dl,.pointer bl]) af rfl rfl rfl rfl (lF.le a7) rfl (by decide) cj (by omega) (by omega) fun _=> ?_;refine vr 2 ?_;refine aH rfl rfl (Fn.iy HQ (tY (N:=N) vu aaV sf LC (by omega))) (fun _ _ h=>by first | exact h.le | exact h.1) ?_;rintro v4 H4 ⟨fg,bE,n4,d4,b4,rfl,bR⟩;have aaX:=fg.ne HQ;have Kf:=nx f (a k);refine aH rfl rfl (Fn.iy aaX (tZ (N:=2*N) (aaW.le fg.le) bR (by omega) (by omega) (by omega))) (fun _ _ h=>by first | exact h.le | exact h.1) ?_;rintro v5 H5 ⟨ku,cA,n5,d5,b5,rfl,ja⟩;obtain⟨LD,sz6,pf,sG⟩:=(aW.le (eG.le.trans fg.le) ((fg.same gl ua).trans (eG.same gl ua))).le ku.le (ku.same gl ua);have DI:=sG.len;rw[cS]at DI;obtain⟨ti,aj,ak⟩:=bV;refine eB (.inr rfl) af rfl rfl rfl (by omega) (by omega) (pf) rfl (by show 0+n*3≤LD.length;omega) aj ak (fun _=>rfl) rfl rfl rfl fun _=> ?_;refine aA ?_;refine ag [1,7,19,20,21] rfl ?_;refine aE rfl ?_;refine aN rfl rfl ⟨by omega,by omega⟩ ?_;refine vr 1 ?_;refine aA ?_;exact⟨k+1,by omega,au,(((gX.trans (eG.pe gl)).trans (fg.pe gl)).trans (ku.pe gl)).ins ua _,by rw[cK _ ua];exact kt.set sG fK ja (by rw[bT,Nat.zero_add];rfl),by omega⟩
   ·
    have hz:a k=0:=wg (by simpa using hb);refine aw ?_;refine ag [1,7,19,20,21] rfl ?_;refine aE rfl ?_;refine aN rfl rfl ⟨by omega,by omega⟩ ?_;refine vr 1 ?_;refine aA ?_;exact⟨k+1,by omega,au,gX.trans (eG.pe gl),by rw[←Rb (show (fun j=>b j-f*a j) k=b k by show b k-f*a k=b k;rw[hz];grind)];exact aW.le eG.le (eG.same gl ua),by omega⟩
  ·
   have hb:n≤k:=by simpa using hb
   obtain rfl:k=n:=by omega
   refine bB ?_;refine⟨.inl rfl,_,.nil,?_⟩;exact⟨(iU.pe gl).trans gX,by rw[←Re (g:=b)];exact aW⟩
end Go.ay
namespace Go.ay
open Go.Proofs Num Lp
def yz(_:Heap)(vs:List Value)(z:Int):Prop:=vs = [.int .i64 z]
def sH(_:Heap)(vs:List Value)(k:Nat):Prop:=vs = [.int .i64 (k:Int)]
theorem sI:Up yz:=fun _ _ _ _ _ h=>h
theorem lG:Up sH:=fun _ _ _ _ _ h=>h
structure TL where
 w:Nat
 u:Nat
 plus:List Nat
 minus:List Int
 jy:List Nat
 js:List Rat
structure TG where
 g:Nat
 cr:Nat
 Ar:Option Addr
 pv:Value
 mv:Value
 uv:Value
 sv:Value
 cv:Value
 bv:Value
 rg:List (Nat×Nat)
 cb:List Nat
 bb:List Nat
def TG.gs(G:TG):List Nat:=G.g::(G.cb++(G.bb++G.rg.map (·.1)))
def TG.cells(G:TG)(w u m:Nat):List Value:=[.int .i64 (w:Int),.int .i64 (u:Int),G.pv,G.mv,G.uv,G.sv,.slice G.Ar m G.cr,G.cv,G.bv]
def j0(B:Nat→Nat)(m:Nat):List Value:=(List.range m).map fun i=> .int .i64 (B i:Int)
theorem uc{B:Nat→Nat}{m i:Nat}(h:i<m):(j0 B m)[i]? = some (.int .i64 (B i:Int)):=by simp[j0,h]
theorem HR(B:Nat→Nat)(m:Nat):(j0 B m).length=m:=by simp[j0]
theorem aaY{B C:Nat→Nat}{m:Nat}(h:∀i,i<m→B i=C i):j0 B m=j0 C m:=by
 unfold j0
 apply List.map_congr_left
 intro i hi
 rw[h i (List.mem_range.1 hi)]
structure dC(H:Heap)(G:TG)(L:TL)(T:ao):Prop where
 n:T.n=L.w
 uw:L.u≤L.w
 st:H G.g=some ⟨G.cells L.w L.u T.m,9,97,true⟩
 nd:G.gs.Nodup
 lD:G.rg.length=T.m
 rows:∃xs,Rd (rem H G.gs) G.Ar xs∧∀(i:Nat)(p:Nat×Nat),G.rg[i]? = some p→xs[i]? = some (.slice (some ⟨p.1,0,none⟩) (L.w+1) p.2)
 row:∀(i:Nat)(p:Nat×Nat),G.rg[i]? = some p→kt (rem H G.gs) H p.1 (aT (T.A i) (L.w+1))
 basis:(T.m=0∧G.bb = []∧G.bv = .slice none 0 0)∨∃gb cb sz,G.bb = [gb]∧G.bv = .slice (some ⟨gb,0,none⟩) T.m cb∧H gb=some ⟨j0 T.B T.m,sz,3,true⟩
 plus:aC sH 1 (rem H G.gs) G.pv L.plus
 minus:aC yz 1 (rem H G.gs) G.mv L.minus
 jy:aC sH 1 (rem H G.gs) G.uv L.jy
 js:aC bo 3 (rem H G.gs) G.sv L.js
 cb:∀q,q∈G.cb→H q≠none
def ie(H:Heap)(G:TG)(L:TL)(T:ao):Prop:=∃gc cc,G.cb = [gc]∧G.cv = .slice (some ⟨gc,0,none⟩) (L.w+1) cc∧kt (rem H G.gs) H gc (aT T.c (L.w+1))
section
variable {H H':Heap} {G:TG} {L:TL} {T:ao}
theorem TG.qi(G:TG):G.g∈G.gs:=List.mem_cons_self ..
theorem TG.wk{G:TG}{q:Nat}(h:q∈G.cb):q∈G.gs:=List.mem_cons_of_mem _ (List.mem_append_left _ h)
theorem TG.ue{G:TG}{q:Nat}(h:q∈G.bb):q∈G.gs:=List.mem_cons_of_mem _ (List.mem_append_right _ (List.mem_append_left _ h))
theorem TG.oB{G:TG}{i:Nat}{p:Nat×Nat}(h:G.rg[i]? = some p):p.1∈G.gs:=List.mem_cons_of_mem _ (List.mem_append_right _ (List.mem_append_right _ (List.mem_map.2 ⟨p,List.mem_of_getElem? h,rfl⟩)))
theorem dC.ne(h:dC H G L T):∀q,q∈G.gs→H q≠none:=fun q hq=>by
 rcases List.mem_cons.1 hq with rfl | hq
 ·rw[h.st];simp
 ·rcases List.mem_append.1 hq with hq | hq
  ·exact h.cb q hq
  ·rcases List.mem_append.1 hq with hq | hq
   ·rcases h.basis with ⟨_,h1,_⟩ | ⟨gb,cb,sz,h1,_,h2⟩
    ·rw[h1]at hq;cases hq
    ·rw[h1,List.mem_singleton]at hq
     rw[hq,h2];simp
   ·obtain⟨p,hp,rfl⟩:=List.mem_map.1 hq
    obtain⟨i,hi⟩:=List.getElem?_of_mem hp
    obtain⟨xs,sz,h1,_⟩:=h.row i p hi
    rw[h1];simp
theorem dC.cell(h:dC H G L T){k:Nat}{v:Value}(hk:(G.cells L.w L.u T.m)[k]? = some v):ay.cell H ((⟨G.g,0,none⟩:Addr).add k)=some v:=by
 simp[ay.cell,kQ,h.st,hk]
theorem dC.Bp(h:dC H G L T):ay.cell H (⟨G.g,0,none⟩:Addr)=some (.int .i64 (L.w:Int)):=by
 have:=h.cell (k:=0) (v:= .int .i64 (L.w:Int)) rfl
 rwa [kQ]at this
theorem TG.yA{G:TG}(h:G.gs.Nodup){q:Nat}(hq:q∈G.cb∨q∈G.bb∨∃(i:Nat)(p:Nat×Nat),G.rg[i]? = some p∧p.1=q):G.g≠q:=by
 have h1:=(List.nodup_cons.1 h).1
 intro e
 subst e
 apply h1
 rcases hq with hq | hq | ⟨i,p,hp,he⟩
 ·exact List.mem_append_left _ hq
 ·exact List.mem_append_right _ (List.mem_append_left _ hq)
 ·exact List.mem_append_right _ (List.mem_append_right _ (List.mem_map.2 ⟨p,List.mem_of_getElem? hp,he⟩))
theorem TG.yB{G:TG}(h:G.gs.Nodup){q r:Nat}(hq:q∈G.cb)(hr:r∈G.bb∨∃(i:Nat)(p:Nat×Nat),G.rg[i]? = some p∧p.1=r):q≠r:=by
 have h1:=(List.nodup_append.1 (List.nodup_cons.1 h).2).2.2 q hq
 refine h1 r ?_
 rcases hr with hr | ⟨i,p,hp,he⟩
 ·exact List.mem_append_left _ hr
 ·exact List.mem_append_right _ (List.mem_map.2 ⟨p,List.mem_of_getElem? hp,he⟩)
theorem TG.Rj{G:TG}(h:G.gs.Nodup){q:Nat}(hq:q∈G.bb){i:Nat}{p:Nat×Nat}(hp:G.rg[i]? = some p):q≠p.1:=
 (List.nodup_append.1 (List.nodup_append.1 (List.nodup_cons.1 h).2).2.1).2.2 q hq p.1 (List.mem_map.2 ⟨p,List.mem_of_getElem? hp,rfl⟩)
theorem TG.Rk{G:TG}(h:G.gs.Nodup){i j:Nat}{p q:Nat×Nat}(hp:G.rg[i]? = some p)(hq:G.rg[j]? = some q)(bD:i≠j):p.1≠q.1:=by
 have h1:=(List.nodup_append.1 (List.nodup_append.1 (List.nodup_cons.1 h).2).2.1).2.1
 intro e
 have hi:(G.rg.map (·.1))[i]? = some p.1:=by rw[List.getElem?_map,hp];rfl
 have hj:(G.rg.map (·.1))[j]? = some p.1:=by rw[List.getElem?_map,hq,e];rfl
 obtain⟨LF,ng⟩:=List.getElem?_eq_some_iff.1 hi
 obtain⟨tE,x8⟩:=List.getElem?_eq_some_iff.1 hj
 exact bD ((List.getElem_inj h1).1 (ng.trans x8.symm))
theorem dC.kept(h:dC H G L T)(k:Kept G.gs H H'):dC H' G L T where
 n:=h.n
 uw:=h.uw
 st:=by rw[k.same _ G.qi];exact h.st
 nd:=h.nd
 lD:=h.lD
 rows:=by obtain⟨xs,h1,h2⟩:=h.rows;exact⟨xs,h1.le k.le,h2⟩
 row:=fun i p hp=>(h.row i p hp).le k.le (k.same _ (TG.oB hp))
 basis:=by
  rcases h.basis with h1 | ⟨gb,cb,sz,h1,h2,h3⟩
  ·exact .inl h1
  ·exact .inr ⟨gb,cb,sz,h1,h2,by rw[k.same _ (TG.ue (by rw[h1];exact List.mem_singleton.2 rfl))];exact h3⟩
 plus:=h.plus.le lG k.le
 minus:=h.minus.le sI k.le
 jy:=h.jy.le lG k.le
 js:=h.js.le fD k.le
 cb:=fun q hq=>by rw[k.same _ (TG.wk hq)];exact h.cb q hq
theorem ie.kept(h:ie H G L T)(k:Kept G.gs H H'):ie H' G L T:=by
 obtain⟨gc,cc,h1,h2,h3⟩:=h
 exact⟨gc,cc,h1,h2,h3.le k.le (k.same _ (TG.wk (by rw[h1];exact List.mem_singleton.2 rfl)))⟩
theorem dC.congr{T':ao}(h:dC H G L T)(hm:T'.m=T.m)(hn:T'.n=T.n)(hA:∀i,i<T.m→∀j,j≤T.n→T'.A i j=T.A i j)(hB:∀i,i<T.m→T'.B i=T.B i):dC H G L T' where
 n:=hn.trans h.n
 uw:=h.uw
 st:=by rw[hm];exact h.st
 nd:=h.nd
 lD:=h.lD.trans hm.symm
 rows:=h.rows
 row:=fun i p hp=>by
  have hi:i<T.m:=by rw[←h.lD];exact(List.getElem?_eq_some_iff.1 hp).1
  rw[ks (g:=T.A i) (fun j hj=>hA i hi j (by rw[h.n];omega))];exact h.row i p hp
 basis:=by
  rw[hm,aaY hB];exact h.basis
 plus:=h.plus
 minus:=h.minus
 jy:=h.jy
 js:=h.js
 cb:=h.cb
theorem ie.congr{T':ao}(h:ie H G L T)(hc:∀j,j≤L.w→T'.c j=T.c j):ie H G L T':=by
 obtain⟨gc,cc,h1,h2,h3⟩:=h
 exact⟨gc,cc,h1,h2,by rw[ks (g:=T.c) (fun j hj=>hc j (by omega))];exact h3⟩
def _root_.Lp.ao.setRow(T:ao)(i:Nat)(f:Nat→Rat):ao:={T with A:=fun k=>if k=i then f else T.A k}
theorem dC.setRow(h:dC H G L T){i:Nat}{p:Nat×Nat}(hp:G.rg[i]? = some p)(k:l8 G.gs p.1 H H'){f:Nat→Rat}(hb:kt (rem H' G.gs) H' p.1 (aT f (L.w+1))):dC H' G L (T.setRow i f) where
 n:=h.n
 uw:=h.uw
 st:=by rw[k.same _ G.qi (TG.yA h.nd (.inr (.inr ⟨i,p,hp,rfl⟩)))];exact h.st
 nd:=h.nd
 lD:=h.lD
 rows:=by obtain⟨xs,h1,h2⟩:=h.rows;exact⟨xs,h1.le k.le,h2⟩
 row:=fun j q hq=>by
  by_cases e:j=i
  ·subst e
   rw[hp]at hq
   cases hq
   simp only[ao.setRow,if_true]
   exact hb
  ·simp only[ao.setRow,if_neg e]
   exact(h.row j q hq).le k.le (k.same _ (TG.oB hq) (TG.Rk h.nd hq hp e))
 basis:=by
  rcases h.basis with h1 | ⟨gb,cb,sz,h1,h2,h3⟩
  ·exact .inl h1
  ·have hm:gb∈G.bb:=by rw[h1];exact List.mem_singleton.2 rfl
   exact .inr ⟨gb,cb,sz,h1,h2,by rw[k.same _ (TG.ue hm) (TG.Rj h.nd hm hp)];exact h3⟩
 plus:=h.plus.le lG k.le
 minus:=h.minus.le sI k.le
 jy:=h.jy.le lG k.le
 js:=h.js.le fD k.le
 cb:=fun q hq=>by rw[k.same _ (TG.wk hq) (TG.yB h.nd hq (.inr ⟨i,p,hp,rfl⟩))];exact h.cb q hq
theorem ie.setRow(h:ie H G L T)(nd:G.gs.Nodup){i:Nat}{p:Nat×Nat}(hp:G.rg[i]? = some p)(k:l8 G.gs p.1 H H')(f:Nat→Rat):ie H' G L (T.setRow i f):=by
 obtain⟨gc,cc,h1,h2,h3⟩:=h
 have hm:gc∈G.cb:=by rw[h1];exact List.mem_singleton.2 rfl
 exact⟨gc,cc,h1,h2,h3.le k.le (k.same _ (TG.wk hm) (TG.yB nd hm (.inr ⟨i,p,hp,rfl⟩)))⟩
theorem dC.aaZ(h:dC H G L T){gc:Nat}(hc:G.cb = [gc])(k:l8 G.gs gc H H'){f:Nat→Rat}(hb:kt (rem H' G.gs) H' gc (aT f (L.w+1))):dC H' G L {T with c:=f}:=by
 have hm:gc∈G.cb:=by rw[hc];exact List.mem_singleton.2 rfl
 exact
 {n:=h.n
  uw:=h.uw
  st:=by rw[k.same _ G.qi (TG.yA h.nd (.inl hm))];exact h.st
  nd:=h.nd
  lD:=h.lD
  rows:=by obtain⟨xs,h1,h2⟩:=h.rows;exact⟨xs,h1.le k.le,h2⟩
  row:=fun j q hq=>(h.row j q hq).le k.le (k.same _ (TG.oB hq) (fun e=>TG.yB h.nd hm (.inr ⟨j,q,hq,rfl⟩) e.symm))
  basis:=by
   rcases h.basis with h1 | ⟨gb,cb,sz,h1,h2,h3⟩
   ·exact .inl h1
   ·have bm:gb∈G.bb:=by rw[h1];exact List.mem_singleton.2 rfl
    exact .inr ⟨gb,cb,sz,h1,h2,by rw[k.same _ (TG.ue bm) (fun e=>TG.yB h.nd hm (.inl bm) e.symm)];exact h3⟩
  plus:=h.plus.le lG k.le
  minus:=h.minus.le sI k.le
  jy:=h.jy.le lG k.le
  js:=h.js.le fD k.le
  cb:=fun q hq=>by
   rw[hc,List.mem_singleton]at hq
   obtain⟨xs,sz,h1,_⟩:=hb
   rw[hq,h1];simp}
theorem dC.LG(h:dC H G L T){gb cb sz:Nat}(hb:G.bb = [gb])(hv:G.bv = .slice (some ⟨gb,0,none⟩) T.m cb){r s:Nat}{e:aQ}(he:e=⟨j0 (fun i=>if i=r then s else T.B i) T.m,sz,3,true⟩):dC (ins H gb e) G L {T with B:=fun i=>if i=r then s else T.B i}:=by
 have hm:gb∈G.bb:=by rw[hb];exact List.mem_singleton.2 rfl
 have k:l8 G.gs gb H (ins H gb e):=((Kept.refl _ _).pe gb).ins (TG.ue hm) e
 exact
 {n:=h.n
  uw:=h.uw
  st:=by rw[k.same _ G.qi (TG.yA h.nd (.inr (.inl hm)))];exact h.st
  nd:=h.nd
  lD:=h.lD
  rows:=by obtain⟨xs,h1,h2⟩:=h.rows;exact⟨xs,h1.le k.le,h2⟩
  row:=fun j q hq=>(h.row j q hq).le k.le (k.same _ (TG.oB hq) (fun e=>TG.Rj h.nd hm hq e.symm))
  basis:= .inr ⟨gb,cb,sz,hb,hv,by rw[bT,he]⟩
  plus:=h.plus.le lG k.le
  minus:=h.minus.le sI k.le
  jy:=h.jy.le lG k.le
  js:=h.js.le fD k.le
  cb:=fun q hq=>by rw[k.same _ (TG.wk hq) (TG.yB h.nd hq (.inl hm))];exact h.cb q hq}
theorem ie.LG(h:ie H G L T)(nd:G.gs.Nodup){gb:Nat}(hb:G.bb = [gb])(e:aQ)(B:Nat→Nat):ie (ins H gb e) G L {T with B:=B}:=by
 have hm:gb∈G.bb:=by rw[hb];exact List.mem_singleton.2 rfl
 have k:l8 G.gs gb H (ins H gb e):=((Kept.refl _ _).pe gb).ins (TG.ue hm) e
 obtain⟨gc,cc,h1,h2,h3⟩:=h
 have Rm:gc∈G.cb:=by rw[h1];exact List.mem_singleton.2 rfl
 exact⟨gc,cc,h1,h2,h3.le k.le (k.same _ (TG.wk Rm) (TG.yB nd Rm (.inl hm)))⟩
structure Sz(N:Nat)(T:ao):Prop where
 A:∀i,i<T.m→∀j,j≤T.n→aJ (T.A i j)≤N
 c:∀j,j≤T.n→aJ (T.c j)≤N
end
end Go.ay
namespace Go.ay
open Go.Proofs Num Lp
section
variable {H:Heap} {G:TG} {L:TL} {T:ao} {N:Nat} {fs:List Value} {f:Rat}
theorem aa0(h:dC H G L T){i r:Nat}{p q:Nat×Nat}(hp:G.rg[i]? = some p)(hq:G.rg[r]? = some q)(bD:i≠r)(hf:bo (rem H G.gs) fs f)(hN:(N:Int)≤549755813888)(hw:(L.w:Int)≤1000000)(sf:aJ f≤N)(si:∀j,j≤L.w→aJ (T.A i j)≤N)(sr:∀j,j≤L.w→aJ (T.A r j)≤N):
  Fn Tryz.prog 125 #[.pointer (some ⟨G.g,0,none⟩),.slice (some ⟨p.1,0,none⟩) (L.w+1) p.2,.int .i64 (r:Int),.agg fs.toArray] H (fun _ H'=>dC H' G L (T.setRow i (fun j=>T.A i j-f*T.A r j))∧l8 G.gs p.1 H H'):=by
 obtain⟨oA,oX,iJ⟩:=h.rows
 refine(Rg (N:=N) h.ne G.qi (TG.oB hp) (TG.oB hq) (TG.Rk h.nd hp hq bD) (TG.yA h.nd (.inr (.inr ⟨i,p,hp,rfl⟩))) h.st rfl oX ?_ (iJ r q hq) (h.row r q hq) (h.row i p hp) hf hN (by omega) sf (fun j hj=>sr j (by omega)) (fun j hj=>si j (by omega))).mono fun v H' hh=>⟨h.setRow hp hh.1 hh.2,hh.1⟩
 rw[←h.lD];exact(List.getElem?_eq_some_iff.1 hq).1
theorem Rn(h:dC H G L T)(hc:ie H G L T){r:Nat}{q:Nat×Nat}(hq:G.rg[r]? = some q)(hf:bo (rem H G.gs) fs f)(hN:(N:Int)≤549755813888)(hw:(L.w:Int)≤1000000)(sf:aJ f≤N)(si:∀j,j≤L.w→aJ (T.c j)≤N)(sr:∀j,j≤L.w→aJ (T.A r j)≤N):
  Fn Tryz.prog 125 #[.pointer (some ⟨G.g,0,none⟩),G.cv,.int .i64 (r:Int),.agg fs.toArray] H (fun _ H'=>dC H' G L {T with c:=fun j=>T.c j-f*T.A r j}∧ie H' G L {T with c:=fun j=>T.c j-f*T.A r j}∧Heap.le (rem H G.gs) (rem H' G.gs)):=by
 obtain⟨oA,oX,iJ⟩:=h.rows
 obtain⟨gc,cc,h1,h2,h3⟩:=hc
 have hm:gc∈G.cb:=by rw[h1];exact List.mem_singleton.2 rfl
 rw[h2]
 refine(Rg (N:=N) h.ne G.qi (TG.wk hm) (TG.oB hq) (TG.yB h.nd hm (.inr ⟨r,q,hq,rfl⟩)) (TG.yA h.nd (.inl hm)) h.st rfl oX ?_ (iJ r q hq) (h.row r q hq) h3 hf hN (by omega) sf (fun j hj=>sr j (by omega)) (fun j hj=>si j (by omega))).mono fun v H' hh=>⟨h.aaZ h1 hh.1 hh.2,⟨gc,cc,h1,h2,hh.2⟩,hh.1.le⟩
 rw[←h.lD];exact(List.getElem?_eq_some_iff.1 hq).1
end
theorem aa1{B:Nat→Nat}{m r s:Nat}:(j0 B m).set r (.int .i64 (s:Int))=j0 (fun i=>if i=r then s else B i) m:=by
 apply List.ext_getElem?
 intro i
 by_cases hi:i<m
 ·by_cases e:i=r
  ·subst e
   rw[List.getElem?_set_self (by rw[HR];exact hi),uc hi,if_pos rfl]
  ·rw[List.getElem?_set_ne (fun e'=>e e'.symm),uc hi,uc hi,if_neg e]
 ·rw[List.getElem?_eq_none (by rw[List.length_set,HR];omega),List.getElem?_eq_none (by rw[HR];omega)]
def kv(T:ao)(r s k:Nat):ao:={T with A:=fun i=>if i=r then(fun j=>T.A r j/T.A r s)else if i<k then(fun j=>T.A i j-T.A i s*(T.A r j/T.A r s))else T.A i}
theorem aa2{T:ao}{r s k:Nat}(hk:k≠r)(i j:Nat):(kv T r s (k+1)).A i j=((kv T r s k).setRow k (fun j=>(kv T r s k).A k j-T.A k s*(kv T r s k).A r j)).A i j:=by
 unfold ao.setRow kv
 simp only
 by_cases e1:i=k
 ·subst e1
  rw[if_neg hk,if_pos (by omega),if_pos rfl,if_neg hk,if_neg (by omega),if_pos trivial]
 ·rw[if_neg e1]
  by_cases e2:i=r
  ·rw[if_pos e2,if_pos e2]
  ·rw[if_neg e2,if_neg e2]
   by_cases e3:i<k
   ·rw[if_pos (by omega),if_pos e3]
   ·rw[if_neg (by omega),if_neg e3]
theorem aa3{T:ao}{r s k:Nat}(hk:k=r)(i j:Nat):(kv T r s (k+1)).A i j=(kv T r s k).A i j:=by
 unfold kv
 simp only
 by_cases e2:i=r
 ·rw[if_pos e2,if_pos e2]
 ·rw[if_neg e2,if_neg e2]
  by_cases e3:i<k
  ·rw[if_pos (by omega),if_pos e3]
  ·rw[if_neg (by omega),if_neg e3]
theorem dC.get{H:Heap}{G:TG}{L:TL}{T:ao}(h:dC H G L T){i:Nat}(hi:i<T.m):∃p,G.rg[i]? = some p:=⟨_,List.getElem?_eq_getElem (by rw[h.lD];exact hi)⟩
theorem Ro{H:Heap}{G:TG}{L:TL}{T:ao}{N r s:Nat}(h:dC H G L T)(hc:ie H G L T)(hr:r<T.m)(hs:s<L.w)(hp:T.A r s≠0)(hz:Sz N T)(hz':Sz N (T.pivot r s))(hN:(N:Int)≤549755813888)(hw:(L.w:Int)≤1000000)(hm:(T.m:Int)≤1000000):
 Fn Tryz.prog 127 #[.pointer (some ⟨G.g,0,none⟩),.int .i64 (r:Int),.int .i64 (s:Int)] H (fun _ H'=>dC H' G L (T.pivot r s)∧ie H' G L (T.pivot r s)∧Heap.le (rem H G.gs) (rem H' G.gs)):=by
 obtain⟨pr,qj⟩:=h.get hr
 obtain⟨oA,oX,iJ⟩:=h.rows
 have qU:s≤T.n:=by rw[h.n];omega
 have Rp:∀j,j≤L.w→aJ (T.A r j/T.A r s)≤N:=fun j hj=>by
  have:=hz'.A r hr j (by show j≤T.n;rw[h.n];exact hj)
  simpa [ao.pivot]using this
 have HS:∀i,i<T.m→∀j,j≤L.w→aJ (T.A i j)≤N:=fun i hi j hj=>hz.A i hi j (by rw[h.n];exact hj)
 obtain⟨xp,np,dp,bp,fU,hnp,yC⟩:=(h.row r pr qj).rd (fp (show s<L.w+1 by omega));refine aU (args:=[_,_,_]) Tryz.func127 rfl rfl Tryz.ntmps127 rfl rfl fun w0=> ?_;refine ag [0,1,2] rfl ?_;refine ae ?_;refine vr 2 ?_;refine bJ af rfl rfl rfl ?_;refine aZ af rfl rfl rfl (h.cell rfl) ?_;refine vr 1 ?_;refine a6 af rfl rfl rfl rfl rfl (oX.le (bG _ _)) (by rw[Int.toNat_natCast];exact iJ r pr qj) (by omega) (by omega) fun _=> ?_;refine vr 1 ?_;refine ab [0,1,2,6] ?_;refine ae ?_;refine vr 2 ?_;refine cI (vs:=[.int .i64 np,.int .i64 dp,.pointer bp]) af rfl rfl rfl rfl fU rfl (by decide) (by rw[Int.toNat_natCast];exact yC) (by omega) (by omega) fun _=> ?_;refine bh dT rfl ?_;obtain⟨ti,aj,ak⟩:=bV;refine aG (.inl ⟨rfl,rfl⟩) rfl rfl rfl aj ak rfl rfl rfl ?_;refine ab [0,1,2,6,7] ?_;refine al ?_;refine ae ?_;refine vr 3 ?_;refine ab [0,1,2,6,7,23,24,25] ?_;refine aD ?_;refine ft (fun(k:Nat)=>L.w+1-k) (fun(k:Nat)=>put (put (put (put (put (put (put (put (emp) 0 (.val (.pointer (some ⟨G.g,0,none⟩)))) 1 (.val (.int .i64 (r:Int)))) 2 (.val (.int .i64 (s:Int)))) 6 (.val (.slice (some ⟨pr.1,0,none⟩) (L.w+1) pr.2))) 7 (.box [.int .i64 np,.int .i64 dp,.pointer bp])) 23 (.val (.slice (some ⟨pr.1,0,none⟩) (L.w+1) pr.2))) 24 (.val (.int .i64 ((L.w+1:Nat):Int)))) 25 (.val (.int .i64 (k:Int)))) (fun(k:Nat) H'=>l8 G.gs pr.1 H H'∧kt (rem H' G.gs) H' pr.1 (aT (iZ (fun j=>T.A r j/T.A r s) (T.A r) k) (L.w+1))∧k≤L.w+1) 0 (⟨(Kept.refl _ _).pe _,by rw[Rc];exact h.row r pr qj,Nat.zero_le _⟩) au ?_
 rintro k H2 ⟨gX,aW,jf⟩;have aa4:=hnp.le gX.le
 have ub:∀q,q∈G.gs→H2 q≠none:=fun q hq=>by
  by_cases e:q=pr.1
  ·
   obtain⟨xs,sz,h,_⟩:=aW;rw[e,h];simp
  ·rw[gX.same q hq e];exact h.ne q hq
 refine ae ?_;refine vr 1 ?_;refine ab [0,1,2,6,7,23,24,25,26] ?_;refine al ?_;refine az rfl (fun hb=> ?_) (fun hb=> ?_)
 ·
  have fK:k<L.w+1:=by simp at hb;omega
  obtain⟨xl,nl,dl,bl,lF,Bn,cj⟩:=aW.rd (fp fK);rw[show iZ (fun j=>T.A r j/T.A r s) (T.A r) k k=T.A r k by simp[iZ]]at Bn;have LC:=HS r hr k (by omega);have Ri:=HS r hr s (by omega);refine aw ?_;refine ag [0,1,2,6,7,23,24,25] rfl ?_;refine al ?_;refine aD ?_;refine ae ?_;refine vr 1 ?_;refine cI (vs:=[.int .i64 nl,.int .i64 dl,.pointer bl]) af rfl rfl rfl rfl lF rfl (by decide) cj (by omega) (by omega) fun _=> ?_;refine bh dT rfl ?_;refine vr 1 ?_;obtain⟨ti,aj,ak⟩:=bV;refine aG (.inl ⟨rfl,rfl⟩) rfl rfl rfl aj ak rfl rfl rfl ?_;refine ab [0,1,2,6,7,8,9,23,24,25] ?_;refine ae ?_;refine vr 1 ?_;refine ar rfl rfl (Fn.qh ub (iN Bn (by omega))) ?_;rintro v3 H3 ⟨eG,a7,rfl⟩;have HQ:=eG.ne ub;refine vr 1 ?_;refine ab [0,1,2,6,7,8,9,23,24,25,32] ?_;refine az rfl (fun hb=> ?_) (fun hb=> ?_)
  ·
   skip
   refine aE rfl ?_;refine vr 4 ?_;refine ar rfl rfl (Fn.iy HQ (Q3 (N:=N) (Bn.le eG.le) (aa4.le eG.le) LC Ri (by omega) hp)) ?_;rintro v4 H4 ⟨fg,bE,n4,d4,b4,rfl,bR⟩;obtain⟨LD,sz6,pf,sG⟩:=aW.le (eG.le.trans fg.le) ((fg.same _ (TG.oB qj)).trans (eG.same _ (TG.oB qj)));have DI:=sG.len;rw[cS]at DI;obtain⟨ti,aj,ak⟩:=bV;refine eB (.inl rfl) af rfl rfl rfl (by omega) (by omega) (pf) rfl (by show 0+(L.w+1)*3≤LD.length;omega) aj ak (fun _=>rfl) rfl rfl rfl fun _=> ?_;refine aA ?_;refine ag [0,1,2,6,7,23,24,25] rfl ?_;refine aE rfl ?_;refine aN rfl rfl ⟨by omega,by omega⟩ ?_;refine vr 1 ?_;refine aA ?_;exact⟨k+1,by omega,au,((gX.trans (eG.pe _)).trans (fg.pe _)).ins (TG.oB qj) _,by rw[cK _ (TG.oB qj)];exact kt.set sG fK bR (by rw[bT,Nat.zero_add];rfl),by omega⟩
  ·
   have ug:T.A r k=0:=wg (by simpa using hb);refine aw ?_;refine ag [0,1,2,6,7,23,24,25] rfl ?_;refine aE rfl ?_;refine aN rfl rfl ⟨by omega,by omega⟩ ?_;refine vr 1 ?_;refine aA ?_;exact⟨k+1,by omega,au,gX.trans (eG.pe _),by rw[←Rb (show (fun j=>T.A r j/T.A r s) k=T.A r k by show T.A r k/T.A r s=T.A r k;rw[ug,Rat.div_def,Rat.zero_mul])];exact aW.le eG.le (eG.same _ (TG.oB qj)),by omega⟩
 ·
  have hb:L.w+1≤k:=by simp at hb;omega
  obtain rfl:k=L.w+1:=by omega
  rw[Re]at aW;have dU:=gX.le;have mB:=(hc.setRow h.nd qj gX (fun j=>T.A r j/T.A r s)).congr (T':=kv T r s 0) (fun j _=>rfl);have h3:=(h.setRow qj gX aW).congr (T':=kv T r s 0) rfl rfl (fun i hi j hj=>by simp only[kv,ao.setRow];split <;> rfl) (fun i hi=>rfl);refine bB ?_;refine ag [0,1,2] rfl ?_;refine al ?_;refine ae ?_;refine vr 2 ?_;refine bJ af rfl rfl rfl ?_;refine aZ af rfl rfl rfl (h3.cell rfl) ?_;refine vr 2 ?_;refine ab [0,1,2,43,44,45] ?_;refine aD ?_;refine ft (fun(k:Nat)=>T.m-k) (fun(k:Nat)=>put (put (put (put (put (put (emp) 0 (.val (.pointer (some ⟨G.g,0,none⟩)))) 1 (.val (.int .i64 (r:Int)))) 2 (.val (.int .i64 (s:Int)))) 43 (.val (.slice G.Ar T.m G.cr))) 44 (.val (.int .i64 (T.m:Int)))) 45 (.val (.int .i64 (k:Int)))) (fun(k:Nat) H'=>dC H' G L (kv T r s k)∧ie H' G L (kv T r s k)∧Heap.le (rem H G.gs) (rem H' G.gs)∧k≤T.m) 0 (⟨h3,mB,dU,Nat.zero_le _⟩) au ?_;rintro k H4 ⟨h4,yg,gS,fg⟩;refine ae ?_;refine vr 1 ?_;refine ab [0,1,2,43,44,45,46] ?_;refine al ?_;refine az rfl (fun hb=> ?_) (fun hb=> ?_)
  ·
   have kz:k<T.m:=by simpa using hb
   obtain⟨pk,pg⟩:=h.get kz;obtain⟨xs4,LH,mC⟩:=h4.rows;refine aw ?_;refine ag [0,1,2,43,44,45] rfl ?_;refine al ?_;refine aD ?_;refine ae ?_;refine vr 1 ?_;refine a6 af rfl rfl rfl rfl rfl (LH.le (bG _ _)) (by rw[Int.toNat_natCast];exact mC k pk pg) (by omega) (by omega) fun _=> ?_;refine vr 2 ?_;refine ab [0,1,2,10,11,43,44,45] ?_;refine ae ?_;refine vr 3 ?_;refine ab [0,1,2,11,43,44,45,52] ?_;refine az rfl (fun hb=> ?_) (fun hb=> ?_)
   ·
    have vK:k≠r:=by simp at hb;omega
    obtain⟨xk,nk,dk,bk,HT,DJ,HU⟩:=(h4.row k pk pg).rd (fp (show s<L.w+1 by omega));rw[show (kv T r s k).A k s=T.A k s by simp[kv,vK]]at DJ;refine aE rfl ?_;refine vr 5 ?_;refine cI (vs:=[.int .i64 nk,.int .i64 dk,.pointer bk]) af rfl rfl rfl rfl HT rfl (by decide) (by rw[Int.toNat_natCast];exact HU) (by omega) (by omega) fun _=> ?_;refine ar rfl rfl (aa0 (N:=N) h4 pg qj vK DJ hN hw (HS k kz s (by omega)) (fun j hj=>by simpa [kv,vK]using HS k kz j hj) (fun j hj=>by simpa [kv]using Rp j hj)) ?_;rintro v5 H5 ⟨h5,DK⟩;refine aA ?_;refine ag [0,1,2,43,44,45] rfl ?_;refine aE rfl ?_;refine aN rfl rfl ⟨by omega,by omega⟩ ?_;refine vr 1 ?_;refine aA ?_;exact⟨k+1,by omega,au,h5.congr rfl rfl (fun i hi j hj=>aa2 vK i j) (fun i hi=>rfl),(yg.setRow h4.nd pg DK (fun _=>0)).congr (fun j _=>rfl),gS.trans DK.le,by omega⟩
   ·
    have vK:k=r:=by simp at hb;omega
    refine aw ?_;refine ag [0,1,2,43,44,45] rfl ?_;refine aE rfl ?_;refine aN rfl rfl ⟨by omega,by omega⟩ ?_;refine vr 1 ?_;refine aA ?_;exact⟨k+1,by omega,au,h4.congr rfl rfl (fun i hi j hj=>aa3 vK i j) (fun i hi=>rfl),yg.congr (fun j _=>rfl),gS,by omega⟩
  ·
   have hb:T.m≤k:=by simpa using hb
   obtain rfl:k=T.m:=by omega
   obtain⟨gc,cc,DL,uh,yD⟩:=id yg;obtain⟨xc,nc,dc,bc,wm,vz,DM⟩:=yD.rd (fp (show s<L.w+1 by omega))
   have gw:cell H4 ((⟨G.g,0,none⟩:Addr).add 7)=some (.slice (some ⟨gc,0,none⟩) (L.w+1) cc):=by rw[←uh];exact h4.cell rfl
   refine bB ?_;refine ag [0,1,2] rfl ?_;refine bL .rL [0,1,2,3,4,5,6,7,8,9,10,11,12,13] follows (by kernel_rfl) ?_;refine vr 3 ?_;refine bJ af rfl rfl rfl ?_;refine aZ af rfl rfl rfl (gw) ?_;refine vr 3 ?_;refine bJ af rfl rfl rfl ?_;refine aZ af rfl rfl rfl (gw) ?_;refine vr 1 ?_;refine cI (vs:=[.int .i64 nc,.int .i64 dc,.pointer bc]) af rfl rfl rfl rfl wm rfl (by decide) (by rw[Int.toNat_natCast];exact DM) (by omega) (by omega) fun _=> ?_;refine Qo rfl rfl (by rw[←uh];exact Rn (N:=N) h4 yg qj vz hN hw (hz.c s qU) (fun j hj=>hz.c j (by rw[h.n];exact hj)) (fun j hj=>by simpa [kv]using Rp j hj)) ?_;rintro v6 H6 ⟨h6,LI,ma⟩
   obtain⟨gb,cb,sz,yn,kA,bW⟩:∃gb cb sz,G.bb = [gb]∧G.bv = .slice (some ⟨gb,0,none⟩) T.m cb∧H6 gb=some ⟨j0 T.B T.m,sz,3,true⟩:=by
    rcases h6.basis with h7 | h7
    ·
     have h8:T.m=0:=h7.1
     omega
    ·exact h7
   refine ab [0,1,2] ?_;refine aE rfl ?_;refine vr 2 ?_;refine bJ af rfl rfl rfl ?_;refine aZ af rfl rfl rfl (show cell H6 _=some (.slice (some ⟨gb,0,none⟩) T.m cb)from by rw[←kA];exact h6.cell rfl) ?_;refine vr 2 ?_;obtain⟨ti,aj,ak⟩:=pR;refine eB (.inl rfl) af rfl rfl rfl (by omega) (by omega) (bW) rfl (by show 0+T.m*1≤(j0 T.B T.m).length;rw[HR];omega) aj ak (fun _=>rfl) rfl rfl rfl fun _=> ?_;refine aA ?_;refine⟨.inl rfl,_,.nil,?_⟩
   have he:({(⟨j0 T.B T.m,sz,3,true⟩:aQ)with xs:=aF (j0 T.B T.m) (0+((r:Int)).toNat*1) [.int .i64 (s:Int)]}:aQ)=⟨j0 (fun i=>if i=r then s else T.B i) T.m,sz,3,true⟩:=by
    rw[Int.toNat_natCast,Nat.mul_one,Nat.zero_add,←aa1];rfl
   refine⟨(h6.LG (r:=r) (s:=s) (sz:=sz) yn kA he).congr (T':=T.pivot r s) rfl rfl (fun i hi j hj=> ?_) (fun i hi=>rfl),(LI.LG h6.nd yn _ (fun _=>0)).congr (T':=T.pivot r s) (fun j hj=> ?_),?_⟩
   ·
    have fR:i<T.m:=hi
    simp only[ao.pivot,kv]
    by_cases e:i=r
    ·simp[e]
    ·simp[e,fR]
   ·simp[ao.pivot,kv]
   ·
    have HV:gb∈G.gs:=TG.ue (by rw[yn];exact List.mem_singleton.2 rfl);rw[cK _ HV];exact gS.trans ma
end Go.ay
