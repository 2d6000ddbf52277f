/- Part 5 of the proof: Num2, Num3, Bd, TDat, Tab1, TDat2, Tab2. -/
import Derived.Test.YtfjncmjbhfdnpaaGreatA04
set_option linter.unusedVariables false
namespace Go.ar
open Go.Proofs Num
theorem adX(p q:Rat):((p.num*(q.den:Int)+q.num*(p.den:Int):Int):Rat)/(((p.den:Int)*(q.den:Int):Int):Rat)=p+q:=by
 have h1:=sK p
 have h2:=sK q
 have h3:=Cu p
 have h4:=Cu q
 rw[Rat.intCast_add,Rat.intCast_mul,Rat.intCast_mul,Rat.intCast_mul]
 grind
theorem adY(p q:Rat):((p.num*q.num:Int):Rat)/(((p.den:Int)*(q.den:Int):Int):Rat)=p*q:=by
 have h1:=sK p
 have h2:=sK q
 have h3:=Cu p
 have h4:=Cu q
 rw[Rat.intCast_mul,Rat.intCast_mul]
 grind
theorem adZ{q:Rat}(h:q≠0):((q.num:Int):Rat)≠0:=fun e=>h (by
 have:q.num=0:=by exact_mod_cast e
 exact Rat.num_eq_zero.1 this)
theorem UW(p:Rat){q:Rat}(h:q≠0):((p.num*(q.den:Int):Int):Rat)/(((p.den:Int)*q.num:Int):Rat)=p/q:=by
 have h1:=sK p
 have h2:=sK q
 have h3:=Cu p
 have h4:=Cu q
 have h5:=adZ h
 rw[Rat.intCast_mul,Rat.intCast_mul]
 grind
theorem ad0(p:Rat){q:Rat}(h:q≠0):((-p.num*(q.den:Int):Int):Rat)/((-(p.den:Int)*q.num:Int):Rat)=p/q:=by
 rw[←UW p h,Int.neg_mul,Int.neg_mul,Rat.intCast_neg,Rat.intCast_neg]
 grind
theorem Jz{H:Heap}{us vs:List Value}{p q:Rat}{N:Nat}(hu:bE H us p)(hv:bE H vs q)(h1:aG p≤N)(h2:aG q≤N)(hN:(N:Int)≤1099511627776):
 Fn Tryz.prog 183 #[.agg us.toArray,.agg vs.toArray] H (qY H (p+q)):=by
 obtain⟨n1,d1,b1,rfl,ij⟩:=id hu
 obtain⟨n2,d2,b2,rfl,cS⟩:=id hv;refine aZ (args:=[_,_]) Tryz.func183 rfl rfl Tryz.ntmps183 rfl rfl fun w0=> ?_;refine ag [0,1] rfl ?_;refine ab ?_;refine bS rfl rfl ?_;refine bS rfl rfl ?_;refine bt dM rfl ?_;refine aa [2,3,4] ?_;refine al ?_
 cases ph:vH n1 d1 b1
 ·
  skip
  refine ab ?_;refine vr 1 ?_;refine aw rfl rfl (oo) ?_;rintro v1 H1 ⟨e1,rfl⟩;rw[e1,ph];refine vr 4 ?_;refine aa [2,3,4,10] ?_;refine cU rfl ?_;refine au ?_;refine ag [2,3,4] rfl ?_;refine bJ .bF [0,2,1,3,4,5,6] follows (by kernel_rfl) ?_;refine vr 2 ?_;refine aO rfl rfl (qZ hu) (fun _ _ h=>by first | exact h.le | exact h.1) ?_;rintro w1 G1 ⟨fc,bW⟩;obtain⟨u1,x1,rfl,eu,eD⟩:=id bW;obtain⟨lT,lU,rfl,lV,lW⟩:=id eu;obtain⟨sL,sM,rfl,sN,sO⟩:=id eD;refine aO rfl rfl (qZ (hv.le fc)) (fun _ _ h=>by first | exact h.le | exact h.1) ?_;rintro w2 G2 ⟨dD,bN⟩;obtain⟨u2,x2,rfl,fm,eE⟩:=id bN;obtain⟨nZ,oa,rfl,oc,od⟩:=id fm;obtain⟨oe,og,rfl,oh,oj⟩:=id eE;refine aO rfl rfl (T7 (N:=N) ((bW.le dD).raw.mono h1) (bN.raw.mono h2) hN) (fun _ _ h=>by first | exact h.le | exact h.1) ?_;rintro w3 G3 ⟨ng,gD⟩;obtain⟨u3,x3,rfl,ov,gC⟩:=id gD;obtain⟨zR,zS,rfl,zT,zU⟩:=id ov;obtain⟨zV,zW,rfl,zX,zY⟩:=id gC;refine aO rfl rfl (xP gD) (fun _ _ h=>by first | exact h.le | exact h.1) ?_;rintro w4 G4 ⟨kJ,zZ,rfl,ct⟩;obtain⟨n4,d4,b4,rfl,_⟩:=id ct;obtain⟨ti,aj,ak⟩:=bV;refine aJ (.inl ⟨rfl,rfl⟩) rfl rfl rfl aj ak rfl rfl rfl ?_;refine aa [4] ?_;obtain⟨bX,aK,aL⟩:=bV;refine az ⟨.inr rfl,_,.agg rfl Tryz.underlying90 aK aL (.nil),?_⟩
  exact⟨((fc.trans dD).trans ng).trans kJ,_,rfl,ct⟩
 ·
  skip
  cases j5:vH n2 d2 b2
  ·
   skip
   refine ab ?_;refine vr 1 ?_;refine aw rfl rfl (oo) ?_;rintro v1 H1 ⟨e1,rfl⟩;rw[e1,ph];refine vr 2 ?_;refine aw rfl rfl (oo) ?_;rintro v1 H1 ⟨e1,rfl⟩;rw[e1,j5];refine vr 1 ?_;refine aa [2,3,4,10] ?_;refine cU rfl ?_;refine au ?_;refine ag [2,3,4] rfl ?_;refine bJ .bF [0,2,1,3,4,5,6] follows (by kernel_rfl) ?_;refine vr 2 ?_;refine aO rfl rfl (qZ hu) (fun _ _ h=>by first | exact h.le | exact h.1) ?_;rintro w1 G1 ⟨fc,bW⟩;obtain⟨u1,x1,rfl,eu,eD⟩:=id bW;obtain⟨lT,lU,rfl,lV,lW⟩:=id eu;obtain⟨sL,sM,rfl,sN,sO⟩:=id eD;refine aO rfl rfl (qZ (hv.le fc)) (fun _ _ h=>by first | exact h.le | exact h.1) ?_;rintro w2 G2 ⟨dD,bN⟩;obtain⟨u2,x2,rfl,fm,eE⟩:=id bN;obtain⟨nZ,oa,rfl,oc,od⟩:=id fm;obtain⟨oe,og,rfl,oh,oj⟩:=id eE;refine aO rfl rfl (T7 (N:=N) ((bW.le dD).raw.mono h1) (bN.raw.mono h2) hN) (fun _ _ h=>by first | exact h.le | exact h.1) ?_;rintro w3 G3 ⟨ng,gD⟩;obtain⟨u3,x3,rfl,ov,gC⟩:=id gD;obtain⟨zR,zS,rfl,zT,zU⟩:=id ov;obtain⟨zV,zW,rfl,zX,zY⟩:=id gC;refine aO rfl rfl (xP gD) (fun _ _ h=>by first | exact h.le | exact h.1) ?_;rintro w4 G4 ⟨kJ,zZ,rfl,ct⟩;obtain⟨n4,d4,b4,rfl,_⟩:=id ct;obtain⟨ti,aj,ak⟩:=bV;refine aJ (.inl ⟨rfl,rfl⟩) rfl rfl rfl aj ak rfl rfl rfl ?_
   refine aa [4] ?_;obtain⟨bX,aK,aL⟩:=bV;refine az ⟨.inr rfl,_,.agg rfl Tryz.underlying90 aK aL (.nil),?_⟩;exact⟨((fc.trans dD).trans ng).trans kJ,_,rfl,ct⟩
  ·
   obtain⟨rfl,k1,k2,k3⟩:=zM.1 ph;obtain⟨rfl,k4,k5,k6⟩:=zM.1 j5;obtain⟨-,rfl,rfl,-⟩:=ij.resolve_right (by rintro⟨ad,f,u,w,h,_⟩;cases h);obtain⟨-,rfl,rfl,-⟩:=cS.resolve_right (by rintro⟨ad,f,u,w,h,_⟩;cases h);have fq:=den_pos p;have dO:=den_pos q;have m1:=zK (a:=p.num) (b:=q.den) k1 k2 (by omega) k6;have m2:=zK (a:=q.num) (b:=p.den) k4 k5 (by omega) k3;have m3:=zK (a:=p.den) (b:=q.den) (by omega) k3 (by omega) k6;have m4:0<(p.den:Int)*(q.den:Int):=Int.mul_pos (by omega) (by omega);refine ab ?_;refine vr 1 ?_;refine aw rfl rfl (oo) ?_;rintro v1 H1 ⟨e1,rfl⟩;rw[e1,ph];refine vr 2 ?_;refine aw rfl rfl (oo) ?_;rintro v1 H1 ⟨e1,rfl⟩;rw[e1,j5];refine vr 1 ?_;refine aa [2,3,4,10] ?_;refine cD rfl ?_;refine ab ?_;refine vr 4 ?_;refine gq rfl rfl ⟨by omega,by omega⟩ ?_;refine vr 4 ?_;refine gq rfl rfl ⟨by omega,by omega⟩ ?_;refine aD rfl rfl ⟨by omega,by omega⟩ ?_;refine vr 4 ?_;refine gq rfl rfl ⟨by omega,by omega⟩ ?_;refine aw rfl rfl (Jn (by omega) (by omega) m4 (by omega)) ?_;rintro w1 G1 ⟨fc,E4,rfl,bW⟩;rw[adX]at bW;obtain⟨n1,d1,b1,rfl,_⟩:=id bW;obtain⟨ti,aj,ak⟩:=bV;refine aJ (.inl ⟨rfl,rfl⟩) rfl rfl rfl aj ak rfl rfl rfl ?_;refine aa [4] ?_
   obtain⟨bX,aK,aL⟩:=bV;refine az ⟨.inr rfl,_,.agg rfl Tryz.underlying90 aK aL (.nil),?_⟩;exact⟨fc,_,rfl,bW⟩
theorem vM{H:Heap}{us vs:List Value}{p q:Rat}{N:Nat}(hu:bE H us p)(hv:bE H vs q)(h1:aG p≤N)(h2:aG q≤N)(hN:(N:Int)≤1099511627776):
 Fn Tryz.prog 128 #[.agg us.toArray,.agg vs.toArray] H (qY H (p*q)):=by
 obtain⟨n1,d1,b1,rfl,ij⟩:=id hu
 obtain⟨n2,d2,b2,rfl,cS⟩:=id hv;refine aZ (args:=[_,_]) Tryz.func128 rfl rfl Tryz.ntmps128 rfl rfl fun w0=> ?_;refine ag [0,1] rfl ?_;refine ab ?_;refine bS rfl rfl ?_;refine bS rfl rfl ?_;refine bt dM rfl ?_;refine aa [2,3,4] ?_;refine al ?_
 cases ph:vH n1 d1 b1
 ·
  skip
  refine ab ?_;refine vr 1 ?_;refine aw rfl rfl (oo) ?_;rintro v1 H1 ⟨e1,rfl⟩;rw[e1,ph];refine vr 4 ?_;refine aa [2,3,4,10] ?_;refine cU rfl ?_;refine au ?_;refine ag [2,3,4] rfl ?_;refine bJ .bF [0,2,1,3,4,5,6] follows (by kernel_rfl) ?_;refine vr 2 ?_;refine aO rfl rfl (qZ hu) (fun _ _ h=>by first | exact h.le | exact h.1) ?_;rintro w1 G1 ⟨fc,bW⟩;obtain⟨u1,x1,rfl,eu,eD⟩:=id bW;obtain⟨lT,lU,rfl,lV,lW⟩:=id eu;obtain⟨sL,sM,rfl,sN,sO⟩:=id eD;refine aO rfl rfl (qZ (hv.le fc)) (fun _ _ h=>by first | exact h.le | exact h.1) ?_;rintro w2 G2 ⟨dD,bN⟩;obtain⟨u2,x2,rfl,fm,eE⟩:=id bN;obtain⟨nZ,oa,rfl,oc,od⟩:=id fm;obtain⟨oe,og,rfl,oh,oj⟩:=id eE;refine aO rfl rfl (Ub (N:=N) ((bW.le dD).raw.mono h1) (bN.raw.mono h2) hN) (fun _ _ h=>by first | exact h.le | exact h.1) ?_;rintro w3 G3 ⟨ng,gD⟩;obtain⟨u3,x3,rfl,ov,gC⟩:=id gD;obtain⟨zR,zS,rfl,zT,zU⟩:=id ov;obtain⟨zV,zW,rfl,zX,zY⟩:=id gC;refine aO rfl rfl (xP gD) (fun _ _ h=>by first | exact h.le | exact h.1) ?_;rintro w4 G4 ⟨kJ,zZ,rfl,ct⟩;obtain⟨n4,d4,b4,rfl,_⟩:=id ct;obtain⟨ti,aj,ak⟩:=bV;refine aJ (.inl ⟨rfl,rfl⟩) rfl rfl rfl aj ak rfl rfl rfl ?_;refine aa [4] ?_;obtain⟨bX,aK,aL⟩:=bV;refine az ⟨.inr rfl,_,.agg rfl Tryz.underlying90 aK aL (.nil),?_⟩
  exact⟨((fc.trans dD).trans ng).trans kJ,_,rfl,ct⟩
 ·
  skip
  cases j5:vH n2 d2 b2
  ·
   skip
   refine ab ?_;refine vr 1 ?_;refine aw rfl rfl (oo) ?_;rintro v1 H1 ⟨e1,rfl⟩;rw[e1,ph];refine vr 2 ?_;refine aw rfl rfl (oo) ?_;rintro v1 H1 ⟨e1,rfl⟩;rw[e1,j5];refine vr 1 ?_;refine aa [2,3,4,10] ?_;refine cU rfl ?_;refine au ?_;refine ag [2,3,4] rfl ?_;refine bJ .bF [0,2,1,3,4,5,6] follows (by kernel_rfl) ?_;refine vr 2 ?_;refine aO rfl rfl (qZ hu) (fun _ _ h=>by first | exact h.le | exact h.1) ?_;rintro w1 G1 ⟨fc,bW⟩;obtain⟨u1,x1,rfl,eu,eD⟩:=id bW;obtain⟨lT,lU,rfl,lV,lW⟩:=id eu;obtain⟨sL,sM,rfl,sN,sO⟩:=id eD;refine aO rfl rfl (qZ (hv.le fc)) (fun _ _ h=>by first | exact h.le | exact h.1) ?_;rintro w2 G2 ⟨dD,bN⟩;obtain⟨u2,x2,rfl,fm,eE⟩:=id bN;obtain⟨nZ,oa,rfl,oc,od⟩:=id fm;obtain⟨oe,og,rfl,oh,oj⟩:=id eE;refine aO rfl rfl (Ub (N:=N) ((bW.le dD).raw.mono h1) (bN.raw.mono h2) hN) (fun _ _ h=>by first | exact h.le | exact h.1) ?_;rintro w3 G3 ⟨ng,gD⟩;obtain⟨u3,x3,rfl,ov,gC⟩:=id gD;obtain⟨zR,zS,rfl,zT,zU⟩:=id ov;obtain⟨zV,zW,rfl,zX,zY⟩:=id gC;refine aO rfl rfl (xP gD) (fun _ _ h=>by first | exact h.le | exact h.1) ?_;rintro w4 G4 ⟨kJ,zZ,rfl,ct⟩;obtain⟨n4,d4,b4,rfl,_⟩:=id ct;obtain⟨ti,aj,ak⟩:=bV;refine aJ (.inl ⟨rfl,rfl⟩) rfl rfl rfl aj ak rfl rfl rfl ?_
   refine aa [4] ?_;obtain⟨bX,aK,aL⟩:=bV;refine az ⟨.inr rfl,_,.agg rfl Tryz.underlying90 aK aL (.nil),?_⟩;exact⟨((fc.trans dD).trans ng).trans kJ,_,rfl,ct⟩
  ·
   obtain⟨rfl,k1,k2,k3⟩:=zM.1 ph;obtain⟨rfl,k4,k5,k6⟩:=zM.1 j5;obtain⟨-,rfl,rfl,-⟩:=ij.resolve_right (by rintro⟨ad,f,u,w,h,_⟩;cases h);obtain⟨-,rfl,rfl,-⟩:=cS.resolve_right (by rintro⟨ad,f,u,w,h,_⟩;cases h);have fq:=den_pos p;have dO:=den_pos q;have m1:=zK (a:=p.num) (b:=q.num) k1 k2 k4 k5;have m3:=zK (a:=p.den) (b:=q.den) (by omega) k3 (by omega) k6;have m4:0<(p.den:Int)*(q.den:Int):=Int.mul_pos (by omega) (by omega);refine ab ?_;refine vr 1 ?_;refine aw rfl rfl (oo) ?_;rintro v1 H1 ⟨e1,rfl⟩;rw[e1,ph];refine vr 2 ?_;refine aw rfl rfl (oo) ?_;rintro v1 H1 ⟨e1,rfl⟩;rw[e1,j5];refine vr 1 ?_;refine aa [2,3,4,10] ?_;refine cD rfl ?_;refine ab ?_;refine vr 4 ?_;refine gq rfl rfl ⟨by omega,by omega⟩ ?_;refine vr 4 ?_;refine gq rfl rfl ⟨by omega,by omega⟩ ?_;refine aw rfl rfl (Jn (by omega) (by omega) m4 (by omega)) ?_;rintro w1 G1 ⟨fc,E4,rfl,bW⟩;rw[adY]at bW;obtain⟨n1,d1,b1,rfl,_⟩:=id bW;obtain⟨ti,aj,ak⟩:=bV;refine aJ (.inl ⟨rfl,rfl⟩) rfl rfl rfl aj ak rfl rfl rfl ?_;refine aa [4] ?_;obtain⟨bX,aK,aL⟩:=bV;refine az ⟨.inr rfl,_,.agg rfl Tryz.underlying90 aK aL (.nil),?_⟩;exact⟨fc,_,rfl,bW⟩
theorem ug{H:Heap}{us vs:List Value}{p q:Rat}{N:Nat}(hu:bE H us p)(hv:bE H vs q)(h1:aG p≤N)(h2:aG q≤N)(hN:(N:Int)≤1099511627776):
 Fn Tryz.prog 119 #[.agg us.toArray,.agg vs.toArray] H (qY H (p-q)):=by
 obtain⟨n1,d1,b1,rfl,ij⟩:=id hu
 obtain⟨n2,d2,b2,rfl,cS⟩:=id hv
 have lX:=vF q;refine aZ (args:=[_,_]) Tryz.func119 rfl rfl Tryz.ntmps119 rfl rfl fun w0=> ?_;refine ag [0,1] rfl ?_;refine ab ?_;refine bS rfl rfl ?_;refine bS rfl rfl ?_;refine bt dM rfl ?_;refine aa [2,3,4] ?_;refine bJ .bF [0,1,2,3,4] follows (by kernel_rfl) ?_;refine vr 2 ?_;refine aO rfl rfl (Cv hv (by omega)) (fun _ _ h=>by first | exact h.le | exact h.1) ?_;rintro w1 G1 ⟨fc,E4,rfl,bW⟩;obtain⟨n1,d1,b1,rfl,_⟩:=id bW;refine aO rfl rfl (Jz (hu.le fc) bW h1 (by omega) hN) (fun _ _ h=>by first | exact h.le | exact h.1) ?_;rintro w2 G2 ⟨dD,Jm,rfl,bN⟩;rw[←Rat.sub_eq_add_neg]at bN;obtain⟨n2,d2,b2,rfl,_⟩:=id bN;obtain⟨ti,aj,ak⟩:=bV;refine aJ (.inl ⟨rfl,rfl⟩) rfl rfl rfl aj ak rfl rfl rfl ?_;refine aa [4] ?_;obtain⟨bX,aK,aL⟩:=bV;refine az ⟨.inr rfl,_,.agg rfl Tryz.underlying90 aK aL (.nil),?_⟩;exact⟨fc.trans dD,_,rfl,bN⟩
theorem UX{H:Heap}{us vs:List Value}{p q:Rat}{N:Nat}(hu:bE H us p)(hv:bE H vs q)(h1:aG p≤N)(h2:aG q≤N)(hN:(N:Int)≤1099511627776)(hq:q≠0):
 Fn Tryz.prog 126 #[.agg us.toArray,.agg vs.toArray] H (qY H (p/q)):=by
 obtain⟨n1,d1,b1,rfl,ij⟩:=id hu
 obtain⟨n2,d2,b2,rfl,cS⟩:=id hv;refine aZ (args:=[_,_]) Tryz.func126 rfl rfl Tryz.ntmps126 rfl rfl fun w0=> ?_;refine ag [0,1] rfl ?_;refine ab ?_;refine bS rfl rfl ?_;refine bS rfl rfl ?_;refine bt dM rfl ?_;refine aa [2,3,4] ?_;refine al ?_
 cases ph:vH n1 d1 b1
 ·
  skip
  refine ab ?_;refine vr 1 ?_;refine aw rfl rfl (oo) ?_;rintro v1 H1 ⟨e1,rfl⟩;rw[e1,ph];refine vr 4 ?_;refine aa [2,3,4,12] ?_;refine cU rfl ?_;refine au ?_;refine ag [2,3,4] rfl ?_;refine bJ .bF [0,2,1,3,4,5,6,7,8,9,10] follows (by kernel_rfl) ?_;refine vr 2 ?_;refine aO rfl rfl (qZ hu) (fun _ _ h=>by first | exact h.le | exact h.1) ?_;rintro w1 G1 ⟨fc,bW⟩;obtain⟨u1,x1,rfl,eu,eD⟩:=id bW;obtain⟨lT,lU,rfl,lV,lW⟩:=id eu;obtain⟨sL,sM,rfl,sN,sO⟩:=id eD;refine aO rfl rfl (qZ (hv.le fc)) (fun _ _ h=>by first | exact h.le | exact h.1) ?_;rintro w2 G2 ⟨dD,bN⟩;obtain⟨u2,x2,rfl,fm,eE⟩:=id bN;obtain⟨nZ,oa,rfl,oc,od⟩:=id fm;obtain⟨oe,og,rfl,oh,oj⟩:=id eE;refine aO rfl rfl (Uc (N:=N) ((bW.le dD).raw.mono h1) (bN.raw.mono h2) hN) (fun _ _ h=>by first | exact h.le | exact h.1) ?_;rintro w3 G3 ⟨ng,r3,rfl,gD⟩;obtain⟨u3,x3,rfl,ov,gC⟩:=id gD;obtain⟨zR,zS,rfl,zT,zU⟩:=id ov;obtain⟨zV,zW,rfl,zX,zY⟩:=id gC;refine vr 3 ?_;refine bt cR rfl ?_;obtain⟨ti,aj,ak⟩:=a8;refine aJ (.inl ⟨rfl,rfl⟩) rfl rfl rfl aj ak rfl rfl rfl ?_;refine vr 1 ?_;refine aa [4,5] ?_;refine ab ?_;refine vr 1 ?_;refine aw rfl rfl (xP gD) ?_
  rintro w4 G4 ⟨kJ,zZ,rfl,ct⟩;obtain⟨n4,d4,b4,rfl,_⟩:=id ct;obtain⟨ti,aj,ak⟩:=bV;refine aJ (.inl ⟨rfl,rfl⟩) rfl rfl rfl aj ak rfl rfl rfl ?_;refine aa [4] ?_;obtain⟨bX,aK,aL⟩:=bV;refine az ⟨.inr rfl,_,.agg rfl Tryz.underlying90 aK aL (.nil),?_⟩;exact⟨((fc.trans dD).trans ng).trans kJ,_,rfl,ct⟩
 ·
  skip
  cases j5:vH n2 d2 b2
  ·
   skip
   refine ab ?_;refine vr 1 ?_;refine aw rfl rfl (oo) ?_;rintro v1 H1 ⟨e1,rfl⟩;rw[e1,ph];refine vr 2 ?_;refine aw rfl rfl (oo) ?_;rintro v1 H1 ⟨e1,rfl⟩;rw[e1,j5];refine vr 1 ?_;refine aa [2,3,4,12] ?_;refine cU rfl ?_;refine au ?_;refine ag [2,3,4] rfl ?_;refine bJ .bF [0,2,1,3,4,5,6,7,8,9,10] follows (by kernel_rfl) ?_;refine vr 2 ?_;refine aO rfl rfl (qZ hu) (fun _ _ h=>by first | exact h.le | exact h.1) ?_;rintro w1 G1 ⟨fc,bW⟩;obtain⟨u1,x1,rfl,eu,eD⟩:=id bW;obtain⟨lT,lU,rfl,lV,lW⟩:=id eu;obtain⟨sL,sM,rfl,sN,sO⟩:=id eD;refine aO rfl rfl (qZ (hv.le fc)) (fun _ _ h=>by first | exact h.le | exact h.1) ?_;rintro w2 G2 ⟨dD,bN⟩;obtain⟨u2,x2,rfl,fm,eE⟩:=id bN;obtain⟨nZ,oa,rfl,oc,od⟩:=id fm;obtain⟨oe,og,rfl,oh,oj⟩:=id eE;refine aO rfl rfl (Uc (N:=N) ((bW.le dD).raw.mono h1) (bN.raw.mono h2) hN) (fun _ _ h=>by first | exact h.le | exact h.1) ?_;rintro w3 G3 ⟨ng,r3,rfl,gD⟩;obtain⟨u3,x3,rfl,ov,gC⟩:=id gD;obtain⟨zR,zS,rfl,zT,zU⟩:=id ov;obtain⟨zV,zW,rfl,zX,zY⟩:=id gC;refine vr 3 ?_;refine bt cR rfl ?_;obtain⟨ti,aj,ak⟩:=a8;refine aJ (.inl ⟨rfl,rfl⟩) rfl rfl rfl aj ak rfl rfl rfl ?_;refine vr 1 ?_
   refine aa [4,5] ?_;refine ab ?_;refine vr 1 ?_;refine aw rfl rfl (xP gD) ?_;rintro w4 G4 ⟨kJ,zZ,rfl,ct⟩;obtain⟨n4,d4,b4,rfl,_⟩:=id ct;obtain⟨ti,aj,ak⟩:=bV;refine aJ (.inl ⟨rfl,rfl⟩) rfl rfl rfl aj ak rfl rfl rfl ?_;refine aa [4] ?_;obtain⟨bX,aK,aL⟩:=bV;refine az ⟨.inr rfl,_,.agg rfl Tryz.underlying90 aK aL (.nil),?_⟩;exact⟨((fc.trans dD).trans ng).trans kJ,_,rfl,ct⟩
  ·
   obtain⟨rfl,k1,k2,k3⟩:=zM.1 ph;obtain⟨rfl,k4,k5,k6⟩:=zM.1 j5;obtain⟨-,rfl,rfl,-⟩:=ij.resolve_right (by rintro⟨ad,f,u,w,h,_⟩;cases h);obtain⟨-,rfl,rfl,-⟩:=cS.resolve_right (by rintro⟨ad,f,u,w,h,_⟩;cases h);have fq:=den_pos p;have dO:=den_pos q;have hqn:q.num≠0:=fun e=>hq (Rat.num_eq_zero.1 e);have m1:=zK (a:=p.num) (b:=q.den) k1 k2 (by omega) k6;have m3:=zK (a:=p.den) (b:=q.num) (by omega) k3 k4 k5;refine ab ?_;refine vr 1 ?_;refine aw rfl rfl (oo) ?_;rintro v1 H1 ⟨e1,rfl⟩;rw[e1,ph];refine vr 2 ?_;refine aw rfl rfl (oo) ?_;rintro v1 H1 ⟨e1,rfl⟩;rw[e1,j5];refine vr 1 ?_;refine aa [2,3,4,12] ?_;refine cD rfl ?_;refine al ?_;refine ab ?_;refine vr 3 ?_;refine aa [2,3,4,15] ?_;refine aB rfl (fun hb=> ?_) (fun hb=> ?_)
   ·
    have hb:q.num<0:=by simpa using hb
    have m4:0 < -(p.den:Int)*q.num:=by rw[Int.neg_mul,←Int.mul_neg];exact Int.mul_pos (by omega) (by omega)
    have e1: -p.num*(q.den:Int) = -(p.num*(q.den:Int)):=Int.neg_mul _ _;have e2: -(p.den:Int)*q.num = -((p.den:Int)*q.num):=Int.neg_mul _ _;refine ab ?_;refine vr 2 ?_;refine sx rfl ⟨by omega,by omega⟩ ?_;refine vr 2 ?_;refine gq rfl rfl ⟨by omega,by omega⟩ ?_;refine vr 2 ?_;refine sx rfl ⟨by omega,by omega⟩ ?_;refine vr 2 ?_;refine gq rfl rfl ⟨by omega,by omega⟩ ?_;refine aw rfl rfl (Jn (by omega) (by omega) m4 (by omega)) ?_;rintro w1 G1 ⟨fc,E4,rfl,bW⟩;rw[ad0 p hq]at bW;obtain⟨n1,d1,b1,rfl,_⟩:=id bW;obtain⟨ti,aj,ak⟩:=bV;refine aJ (.inl ⟨rfl,rfl⟩) rfl rfl rfl aj ak rfl rfl rfl ?_;refine aa [4] ?_;obtain⟨bX,aK,aL⟩:=bV;refine az ⟨.inr rfl,_,.agg rfl Tryz.underlying90 aK aL (.nil),?_⟩;exact⟨fc,_,rfl,bW⟩
   ·
    have hb:0<q.num:=by have:=of_decide_eq_false hb;omega
    have m4:0<(p.den:Int)*q.num:=Int.mul_pos (by omega) hb;refine au ?_;refine ag [2,3,4] rfl ?_;refine ab ?_;refine vr 4 ?_;refine gq rfl rfl ⟨by omega,by omega⟩ ?_;refine vr 4 ?_;refine gq rfl rfl ⟨by omega,by omega⟩ ?_;refine aw rfl rfl (Jn (by omega) (by omega) m4 (by omega)) ?_;rintro w1 G1 ⟨fc,E4,rfl,bW⟩;rw[UW p hq]at bW;obtain⟨n1,d1,b1,rfl,_⟩:=id bW;obtain⟨ti,aj,ak⟩:=bV;refine aJ (.inl ⟨rfl,rfl⟩) rfl rfl rfl aj ak rfl rfl rfl ?_;refine aa [4] ?_;obtain⟨bX,aK,aL⟩:=bV;refine az ⟨.inr rfl,_,.agg rfl Tryz.underlying90 aK aL (.nil),?_⟩;exact⟨fc,_,rfl,bW⟩
end Go.ar
namespace Go.ar
open Go.Proofs Num Lp
def gO{α:Type}(P:Heap→List Value→α→Prop)(H:Heap)(vs:List Value):Option α→Prop
 | some a=>P H vs a
 | none=>True
theorem gO.up{α:Type}{P:Heap→List Value→α→Prop}(up:Up P):Up (gO P):=fun H H' vs a hl h=>by
 cases a with
 | none=>trivial
 | some a=>exact up H H' vs a hl h
def fill{α:Type}(l:List α)(k:Nat):List (Option α):=(l.take k).map some++List.replicate (l.length-k) none
section
variable {α:Type} {l:List α} {k:Nat}
theorem mG(h:k≤l.length):(fill l k).length=l.length:=by simp[fill];omega
theorem ad1:fill l 0=List.replicate l.length none:=by simp[fill]
theorem xY{a:α}(h:l[k]? = some a):(fill l k).set k (some a)=fill l (k+1):=by
 have hk:=(List.getElem?_eq_some_iff.1 h).1
 apply List.ext_getElem?
 intro i
 by_cases e:i=k
 ·subst e
  rw[List.getElem?_set_self (by rw[mG (by omega)];omega)]
  unfold fill
  rw[List.getElem?_append_left (by simp;omega),List.getElem?_map,List.getElem?_take,if_pos (by omega),h];rfl
 ·rw[List.getElem?_set_ne (fun e'=>e e'.symm)]
  unfold fill
  by_cases h1:i<k
  ·rw[List.getElem?_append_left (by simp;omega),List.getElem?_append_left (by simp;omega),List.getElem?_map,List.getElem?_map,List.getElem?_take,List.getElem?_take,if_pos h1,if_pos (by omega)]
  ·rw[List.getElem?_append_right (by simp;omega),List.getElem?_append_right (by simp;omega),List.getElem?_replicate,List.getElem?_replicate]
   simp only[List.length_map,List.length_take]
   by_cases h2:i<l.length
   ·rw[if_pos (by omega),if_pos (by omega)]
   ·rw[if_neg (by omega),if_neg (by omega)]
theorem ad2:fill l l.length=l.map some:=by simp[fill]
theorem CB{P:Heap→List Value→α→Prop}{H:Heap}{sz:Nat}{xs:List Value}(h:bC (gO P H) sz xs (fill l l.length)):bC (P H) sz xs l:=by
 rw[ad2]at h
 refine⟨by simpa using h.len,fun i a ha=> ?_⟩
 exact h.at_ i (some a) (by rw[List.getElem?_map,ha];rfl)
end
theorem z6{α:Type}{P:Heap→List Value→α→Prop}{H:Heap}{zs:List Value}{sz:Nat}(hz:zs.length=sz)(l:List α):bC (gO P H) sz (du zs (l.length*sz)) (fill l 0):=by
 rw[ad1]
 exact adx (P:=gO P H) (a:=none) hz trivial _
theorem fJ:Up bE:=bE.up
def ck(N:Nat)(H:Heap)(vs:List Value)(q:Rat):Prop:=cH H (.agg vs.toArray) q N
theorem ik(N:Nat):Up (ck N):=fun _ _ _ _ hl h=>cH.le h hl
def bT(H:Heap)(vs:List Value)(q:Rat):Prop:=bK H (.agg vs.toArray) q
theorem fK:Up bT:=fun _ _ _ _ hl h=>bK.le h hl
theorem uh{vs:List Value}{a b c:Value}(h:Value.agg vs.toArray = .agg #[a,b,c]):vs = [a,b,c]:=by
 simp only[Value.agg.injEq]at h
 have:=congrArg Array.toList h
 simpa using this
theorem ck.cells{N:Nat}{H:Heap}{vs:List Value}{q:Rat}(h:ck N H vs q):∃f A m c A' m' c',vs = [.bool f,.slice A m c,.slice A' m' c']:=by
 obtain⟨f,u,w,l1,l2,h1,⟨A,c,rfl,_,_⟩,⟨A',c',rfl,_,_⟩,_⟩:=h
 exact⟨f,A,_,c,A',_,c',uh h1⟩
theorem bT.rat{H:Heap}{vs:List Value}{q:Rat}{N:Nat}(h:bT H vs q)(hs:aG q≤N):ck N H vs q:=cH.mono (bK.raw h) hs
theorem bE.cells{H:Heap}{vs:List Value}{q:Rat}(h:bE H vs q):∃n d b,vs = [.int .i64 n,.int .i64 d,.pointer b]:=by
 obtain⟨n,d,b,h,_⟩:=h;exact⟨n,d,b,h⟩
theorem ad3(H:Heap)(g:Nat)(xs vs:List Value)(s e k sz:Nat):ins (ins H g ⟨xs,s,e,true⟩) g {(⟨xs,s,e,true⟩:Ent)with xs:=aI xs (0+k*sz) vs}=ins H g ⟨aI xs (k*sz) vs,s,e,true⟩:=by
 rw[pP,Nat.zero_add]
theorem dF{H:Heap}{g:Nat}{xs:List Value}{s e:Nat}{b:Bool}(h:H g=some ⟨xs,s,e,b⟩):Rd H (some ⟨g,0,none⟩) xs:=fun i v hv=>⟨_,rfl,by simp[cell,iA,h,hv]⟩
theorem q6{q:Rat}(h:fo q=0):q=0:=by
 unfold fo at h
 split at h
 ·omega
 ·split at h
  ·assumption
  ·omega
theorem UY:aG 0=1:=by
 unfold aG
 show max (ah 0).length (ah 1).length=1
 rw[pY,tY];rfl
theorem UZ{f g:Nat→Rat}{s n:Nat}(hf:∀k,k<n→aG (f k)≤s∧aG (g k)≤s):∀k,k≤n→aG (aX k (fun j=>f j*g j))≤k*(2*s+1)+1:=by
 intro k
 induction k with
 | zero=>intro _;rw[Cw,UY];omega
 | succ k ih=>
  intro hk
  have h1:=ih (by omega)
  have h2:=pc (f k) (g k)
  have h3:=NC (aX k (fun j=>f j*g j)) (f k*g k)
  have h4:=hf k (by omega)
  rw[fG,Nat.add_mul]
  omega
theorem JA{l:List Rat}{s:Nat}(h:∀q,q∈l→aG q≤s){k:Nat}(hk:k<l.length):aG (fn l k)≤s:=by
 rw[jC (List.getElem?_eq_getElem hk)];exact h _ (List.getElem_mem hk)
def ad4(H:Heap)(l:List Rat)(v:Value)(H':Heap):Prop:=∃g xs,H g=none∧v = .slice (some ⟨g,0,none⟩) l.length l.length∧H'=ins H g ⟨xs,l.length*3,90,true⟩∧∀K:Heap,bC (bE K) 3 xs l
def JB{α:Type}(P:Heap→List Value→α→Prop)(sz:Nat)(H:Heap)(l:List α)(v:Value)(H':Heap):Prop:=Heap.le H H'∧aR P sz H' v l
theorem ad5{H:Heap}{n:Nat}(hn:(n:Int)≤8796093022208):
 Fn Tryz.prog 56 #[.int .i64 (n:Int)] H (ad4 H (List.replicate n 0)):=by
 refine aZ (args:=[_]) Tryz.func56 rfl rfl Tryz.ntmps56 rfl rfl fun w0=> ?_;refine ag [0] rfl ?_;refine ab ?_;refine vr 1 ?_;refine aa [0] ?_;refine ab ?_;refine vr 1 ?_;refine ig Tryz.underlying85 dM rfl rfl rfl (by omega) (by omega) (by omega) (by omega) ?_;intro g hg;rw[show ((n:Int)).toNat=n from by omega]
 have hz:∀K:Heap,bC (gO bE K) 3 (du [.int .i64 0,.int .i64 0,.pointer none] (n*3)) (fill (List.replicate n (0:Rat)) 0):=fun K=>by have:=z6 (P:=bE) (H:=K) (zs:=[.int .i64 0,.int .i64 0,.pointer none]) rfl (List.replicate n (0:Rat));rwa [List.length_replicate]at this
 refine vr 1 ?_;refine aa [3] ?_;refine al ?_;refine ab ?_;refine vr 3 ?_;refine aa [3,8,9] ?_;refine aC ?_;refine gy (fun(k:Nat)(xs:List Value)=>n-k) (fun(k:Nat)(xs:List Value)=>put (put (put (emp) 3 (.val (.slice (some ⟨g,0,none⟩) n n))) 8 (.val (.int .i64 (n:Int)))) 9 (.val (.int .i64 (k:Int)))) (fun(k:Nat)(xs:List Value) H'=>H'=ins H g ⟨xs,n*3,90,true⟩∧k≤n∧∀K:Heap,bC (gO bE K) 3 xs (fill (List.replicate n (0:Rat)) k)) 0 _ (⟨rfl,Nat.zero_le _,hz⟩) an ?_;rintro k xs H1 ⟨rfl,hk,he⟩;have mH:=mG (l:=List.replicate n (0:Rat)) (k:=k) (by simpa using hk);have cB:=(he H).len;rw[mH,List.length_replicate]at cB;refine ab ?_;refine vr 1 ?_;refine aa [3,8,9,10] ?_;refine al ?_;refine aB rfl (fun hb=> ?_) (fun hb=> ?_)
 ·
  have hb:k<n:=by simpa using hb
  refine au ?_;refine ag [3,8,9] rfl ?_;refine al ?_;refine aC ?_;refine ab ?_;refine vr 2 ?_;refine aa [3,4,8,9] ?_;refine av rfl ?_;refine vr 2 ?_;refine aw rfl rfl (pe) ?_;rintro v1 H1 ⟨e1,rfl⟩;rw[e1];obtain⟨ti,aj,ak⟩:=bV;refine cM (.inl rfl) ae rfl rfl rfl (by omega) (by omega) (bo _ _ _) rfl (by show 0+n*3≤xs.length;omega) aj ak (fun _=>rfl) rfl rfl rfl fun _=> ?_;refine aq ?_;refine ag [3,8,9] rfl ?_;refine av rfl ?_;refine aD rfl rfl ⟨by omega,by omega⟩ ?_;refine vr 1 ?_;refine aq ?_;exact⟨k+1,_,by omega,an,ad3 H g xs _ _ _ k 3,by omega,fun K=>by rw[←xY (a:=(0:Rat)) (by rw[List.getElem?_replicate,if_pos hb])];exact(he K).set (by rw[mH,List.length_replicate];exact hb) (pd K (n:=0) (by decide) (by decide)) rfl⟩
 ·
  have hb:n≤k:=by simpa using hb
  obtain rfl:k=n:=by omega
  refine aU ?_;refine ag [3] rfl ?_;refine ab ?_;refine vr 2 ?_;refine aa [2] ?_;refine az ⟨.inr rfl,_,.tmp rfl (.nil),?_⟩;refine⟨g,xs,hg,by rw[List.length_replicate];rfl,by rw[List.length_replicate],fun K=>CB (l:=List.replicate k (0:Rat)) (by rw[List.length_replicate];exact he K)⟩
theorem ui{H:Heap}{v:Value}{l:List Rat}{N:Nat}(hv:aR (ck N) 3 H v l)(hN:(N:Int)≤1099511627776)(hl:(l.length:Int)≤1099511627776):
 Fn Tryz.prog 57 #[v] H (JB bE 3 H l):=by
 obtain⟨A,c,ys,rfl,hc,hr,gE⟩:=hv;refine aZ (args:=[_]) Tryz.func57 rfl rfl Tryz.ntmps57 rfl rfl fun w0=> ?_;refine ag [0] rfl ?_;refine ab ?_;refine vr 1 ?_;refine aa [0] ?_;refine ab ?_;refine vr 2 ?_;refine ig Tryz.underlying85 dM rfl rfl rfl (by omega) (by omega) (by omega) (by omega) ?_;intro g hg;rw[show ((l.length:Int)).toNat=l.length from by omega];have hz:bC (gO bE (rem (ins H g ⟨du [.int .i64 0,.int .i64 0,.pointer none] (l.length*3),l.length*3,90,true⟩) [g])) 3 (du [.int .i64 0,.int .i64 0,.pointer none] (l.length*3)) (fill l 0):=z6 (sz:=3) (by rfl) l;refine vr 1 ?_;refine aa [0,3] ?_;refine al ?_;refine ab ?_;refine vr 3 ?_;refine aa [3,9,10,11] ?_;refine aC ?_;refine gy (fun(k:Nat)(xs:List Value)=>l.length-k) (fun(k:Nat)(xs:List Value)=>put (put (put (put (emp) 3 (.val (.slice (some ⟨g,0,none⟩) l.length l.length))) 9 (.val (.slice A l.length c))) 10 (.val (.int .i64 (l.length:Int)))) 11 (.val (.int .i64 (k:Int)))) (fun(k:Nat)(xs:List Value) H'=>Heap.le H (rem H' [g])∧H' g=some ⟨xs,l.length*3,90,true⟩∧k≤l.length∧bC (gO bE (rem H' [g])) 3 xs (fill l k)) 0 _ (⟨by rw[vE _ hg,vD];exact .refl _,bo _ _ _,Nat.zero_le _,hz⟩) an ?_;rintro k xs H1 ⟨hle,qb,hk,he⟩;have mH:=mG (l:=l) (k:=k) hk;have cB:=he.len
 rw[mH]at cB;have ow:=hle.trans (bG H1 [g]);refine ab ?_;refine vr 1 ?_;refine aa [3,9,10,11,12] ?_;refine al ?_;refine aB rfl (fun hb=> ?_) (fun hb=> ?_)
 ·
  have hb:k<l.length:=by simpa using hb
  obtain⟨q,dL⟩:∃q,l[k]? = some q:=⟨_,List.getElem?_eq_getElem hb⟩;obtain⟨vs,jL,sS,E5⟩:=gE.get dL;obtain⟨f,A1,m1,c1,A2,m2,c2,rfl⟩:=sS.cells;have N4:cH (rem H1 [g]) _ q N:=cH.le sS hle;refine au ?_;refine ag [3,9,10,11] rfl ?_;refine al ?_;refine aC ?_;refine ab ?_;refine vr 1 ?_;refine bR (vs:=[.bool f,.slice A1 m1 c1,.slice A2 m2 c2]) ae rfl rfl rfl rfl (hr.le ow) rfl (by decide) E5 (by omega) (by omega) fun _=> ?_;refine bt cR rfl ?_;refine vr 1 ?_;obtain⟨ti,aj,ak⟩:=a8;refine aJ (.inl ⟨rfl,rfl⟩) rfl rfl rfl aj ak rfl rfl rfl ?_;refine aa [3,4,5,9,10,11] ?_;refine av rfl ?_;refine vr 3 ?_;refine aw rfl rfl (Fn.frame (gs:=[g]) (fun q hq=>by simp only[List.mem_singleton]at hq;subst hq;rw[qb];simp) (vG N4 hN)) ?_;rintro v2 H2 ⟨⟨dD,Jm,rfl,bN⟩,jn⟩;obtain⟨n2,d2,b2,rfl,_⟩:=id bN;have dQ:=(jn g (List.mem_singleton.2 rfl)).trans qb;obtain⟨ti,aj,ak⟩:=bV;refine cM (.inl rfl) ae rfl rfl rfl (by omega) (by omega) (dQ) rfl (by show 0+l.length*3≤xs.length;omega) aj ak (fun _=>rfl) rfl rfl rfl fun _=> ?_;refine aq ?_;refine ag [3,9,10,11] rfl ?_;refine av rfl ?_;refine aD rfl rfl ⟨by omega,by omega⟩ ?_;refine vr 1 ?_;refine aq ?_;refine⟨k+1,aI xs (k*3) [.int .i64 n2,.int .i64 d2,.pointer b2],by omega,an,?_,?_,by omega,?_⟩
  ·rw[cC _ (List.mem_singleton.2 rfl)];exact hle.trans dD
  ·rw[bo,Nat.zero_add];rfl
  ·
   rw[cC _ (List.mem_singleton.2 rfl),←xY dL];exact(he.mono fun vs a=>gO.up fJ _ _ vs a dD).set (by rw[mH];exact hb) bN rfl
 ·
  have hb:l.length≤k:=by simpa using hb
  obtain rfl:k=l.length:=by omega
  refine aU ?_;refine ag [3] rfl ?_;refine ab ?_;refine vr 2 ?_;refine aa [2] ?_;refine az ⟨.inr rfl,_,.tmp rfl (.nil),?_⟩;exact⟨hle.trans (bG _ _),some ⟨g,0,none⟩,l.length,xs,rfl,Nat.le_refl _,dF qb,(CB he).mono fun vs a=>fJ _ _ vs a (bG _ _)⟩
theorem U0{H:Heap}{v:Value}{l:List Rat}(hv:aR bE 3 H v l)(hN:∀q,q∈l→(aG q:Int)≤1099511627776)(hl:(l.length:Int)≤1099511627776):
 Fn Tryz.prog 129 #[v] H (JB bT 3 H l):=by
 obtain⟨A,c,ys,rfl,hc,hr,gE⟩:=hv;refine aZ (args:=[_]) Tryz.func129 rfl rfl Tryz.ntmps129 rfl rfl fun w0=> ?_;refine ag [0] rfl ?_;refine ab ?_;refine vr 1 ?_;refine aa [0] ?_;refine ab ?_;refine vr 2 ?_;refine ig Tryz.underlying26 cR rfl rfl rfl (by omega) (by omega) (by omega) (by omega) ?_;intro g hg;rw[show ((l.length:Int)).toNat=l.length from by omega];have hz:bC (gO bT (rem (ins H g ⟨du [.bool false,.slice none 0 0,.slice none 0 0] (l.length*3),l.length*3,31,true⟩) [g])) 3 (du [.bool false,.slice none 0 0,.slice none 0 0] (l.length*3)) (fill l 0):=z6 (sz:=3) (by rfl) l;refine vr 1 ?_;refine aa [0,3] ?_;refine al ?_;refine ab ?_;refine vr 3 ?_;refine aa [3,9,10,11] ?_;refine aC ?_;refine gy (fun(k:Nat)(xs:List Value)=>l.length-k) (fun(k:Nat)(xs:List Value)=>put (put (put (put (emp) 3 (.val (.slice (some ⟨g,0,none⟩) l.length l.length))) 9 (.val (.slice A l.length c))) 10 (.val (.int .i64 (l.length:Int)))) 11 (.val (.int .i64 (k:Int)))) (fun(k:Nat)(xs:List Value) H'=>Heap.le H (rem H' [g])∧H' g=some ⟨xs,l.length*3,31,true⟩∧k≤l.length∧bC (gO bT (rem H' [g])) 3 xs (fill l k)) 0 _ (⟨by rw[vE _ hg,vD];exact .refl _,bo _ _ _,Nat.zero_le _,hz⟩) an ?_;rintro k xs H1 ⟨hle,qb,hk,he⟩;have mH:=mG (l:=l) (k:=k) hk
 have cB:=he.len;rw[mH]at cB;have ow:=hle.trans (bG H1 [g]);refine ab ?_;refine vr 1 ?_;refine aa [3,9,10,11,12] ?_;refine al ?_;refine aB rfl (fun hb=> ?_) (fun hb=> ?_)
 ·
  have hb:k<l.length:=by simpa using hb
  obtain⟨q,dL⟩:∃q,l[k]? = some q:=⟨_,List.getElem?_eq_getElem hb⟩;obtain⟨vs,jL,sS,E5⟩:=gE.get dL;obtain⟨n1,d1,b1,rfl⟩:=sS.cells;have N4:=sS.le hle;refine au ?_;refine ag [3,9,10,11] rfl ?_;refine al ?_;refine aC ?_;refine ab ?_;refine vr 1 ?_;refine bR (vs:=[.int .i64 n1,.int .i64 d1,.pointer b1]) ae rfl rfl rfl rfl (hr.le ow) rfl (by decide) E5 (by omega) (by omega) fun _=> ?_;refine bt dM rfl ?_;refine vr 1 ?_;obtain⟨ti,aj,ak⟩:=bV;refine aJ (.inl ⟨rfl,rfl⟩) rfl rfl rfl aj ak rfl rfl rfl ?_;refine aa [3,4,5,9,10,11] ?_;refine av rfl ?_;refine vr 3 ?_;refine aw rfl rfl (Fn.frame (gs:=[g]) (fun q hq=>by simp only[List.mem_singleton]at hq;subst hq;rw[qb];simp) (Uk N4 (hN q (List.mem_of_getElem? dL)))) ?_;rintro v2 H2 ⟨⟨dD,bN⟩,jn⟩;obtain⟨u2,w2,rfl,fm,kI⟩:=id bN;obtain⟨A2,c2,rfl,lS,lx⟩:=id fm;obtain⟨A3,c3,rfl,sH,o6⟩:=id kI;have dQ:=(jn g (List.mem_singleton.2 rfl)).trans qb;obtain⟨ti,aj,ak⟩:=a8;refine cM (.inl rfl) ae rfl rfl rfl (by omega) (by omega) (dQ) rfl (by show 0+l.length*3≤xs.length;omega) aj ak (fun _=>rfl) rfl rfl rfl fun _=> ?_;refine aq ?_;refine ag [3,9,10,11] rfl ?_;refine av rfl ?_;refine aD rfl rfl ⟨by omega,by omega⟩ ?_;refine vr 1 ?_;refine aq ?_
  refine⟨k+1,aI xs (k*3) [.bool (decide (q.num<0)),.slice A2 (ah q.num.natAbs).length c2,.slice A3 (ah q.den).length c3],by omega,an,?_,?_,by omega,?_⟩
  ·rw[cC _ (List.mem_singleton.2 rfl)];exact hle.trans dD
  ·rw[bo,Nat.zero_add];rfl
  ·
   rw[cC _ (List.mem_singleton.2 rfl),←xY dL];exact(he.mono fun vs a=>gO.up fK _ _ vs a dD).set (by rw[mH];exact hb) (show bT _ _ q from bN) rfl
 ·
  have hb:l.length≤k:=by simpa using hb
  obtain rfl:k=l.length:=by omega
  refine aU ?_;refine ag [3] rfl ?_;refine ab ?_;refine vr 2 ?_;refine aa [2] ?_;refine az ⟨.inr rfl,_,.tmp rfl (.nil),?_⟩;exact⟨hle.trans (bG _ _),some ⟨g,0,none⟩,l.length,xs,rfl,Nat.le_refl _,dF qb,(CB he).mono fun vs a=>fK _ _ vs a (bG _ _)⟩
theorem JC{H:Heap}{u v:Value}{l1 l2:List Rat}{s:Nat}(hu:aR bE 3 H u l1)(hv:aR bE 3 H v l2)(hl:l1.length≤l2.length)(h1:∀q,q∈l1→aG q≤s)(h2:∀q,q∈l2→aG q≤s)(hs:((l1.length:Int)+2)*(2*s+2)≤1099511627776):
 Fn Tryz.prog 120 #[u,v] H (qY H (cj l1.length (fn l1) (fn l2))):=by
 obtain⟨A,c,ys,rfl,hc,hr,gE⟩:=hu
 obtain⟨A',c',ys',rfl,jd,dt,N5⟩:=hv
 have xS:=UZ (f:=fn l1) (g:=fn l2) (s:=s) (n:=l1.length) (fun k hk=>⟨JA h1 hk,JA h2 (by omega)⟩)
 have nS:∀k,k≤l1.length→((k*(2*s+1)+1:Nat):Int)≤1099511627776:=fun k hk=>by
  have h3:k*(2*s+1)+1≤(l1.length+2)*(2*s+2):=by
   have h4:k*(2*s+1)≤l1.length*(2*s+2):=Nat.mul_le_mul hk (by omega)
   rw[Nat.add_mul];omega
  have h5:(((l1.length+2)*(2*s+2):Nat):Int)=((l1.length:Int)+2)*(2*s+2):=by push_cast;rfl
  omega
 have aka:(l1.length:Int)≤1099511627776:=by
  have h3:l1.length+2≤(l1.length+2)*(2*s+2):=Nat.le_mul_of_pos_right _ (by omega)
  have h5:(((l1.length+2)*(2*s+2):Nat):Int)=((l1.length:Int)+2)*(2*s+2):=by push_cast;rfl
  omega
 have jn:((2*(2*s+2):Nat):Int)≤1099511627776:=by
  have h3:2*(2*s+2)≤(l1.length+2)*(2*s+2):=Nat.mul_le_mul_right _ (by omega)
  have h5:(((l1.length+2)*(2*s+2):Nat):Int)=((l1.length:Int)+2)*(2*s+2):=by push_cast;rfl
  omega
 refine aZ (args:=[_,_]) Tryz.func120 rfl rfl Tryz.ntmps120 rfl rfl fun w0=> ?_;refine ag [0,1] rfl ?_;refine ab ?_;refine bt dM rfl ?_;refine aa [0,1,4] ?_;refine ab ?_;refine aw rfl rfl (pe) ?_;rintro v1 H1 ⟨e1,rfl⟩;rw[e1];refine bt dM rfl ?_;obtain⟨ti,aj,ak⟩:=bV;refine aJ (.inl ⟨rfl,rfl⟩) rfl rfl rfl aj ak rfl rfl rfl ?_;refine aa [0,1,4,5] ?_;refine al ?_;refine ab ?_;refine vr 3 ?_;refine aa [1,4,5,9,10,11] ?_;refine aC ?_;refine pW (fun(k:Nat)(n5:Int)(d5:Int)(b5:Option Addr)=>l1.length-k) (fun(k:Nat)(n5:Int)(d5:Int)(b5:Option Addr)=>put (put (put (put (put (put (emp) 1 (.val (.slice A' l2.length c'))) 4 (.box [.int .i64 0,.int .i64 0,.pointer none])) 5 (.box [.int .i64 n5,.int .i64 d5,.pointer b5])) 9 (.val (.slice A l1.length c))) 10 (.val (.int .i64 (l1.length:Int)))) 11 (.val (.int .i64 (k:Int)))) (fun(k:Nat)(n5:Int)(d5:Int)(b5:Option Addr) H'=>Heap.le H H'∧k≤l1.length∧bE H' [.int .i64 n5,.int .i64 d5,.pointer b5] (aX k (fun j=>fn l1 j*fn l2 j))) 0 0 1 none (⟨.refl _,Nat.zero_le _,pd H (n:=0) (by decide) (by decide)⟩) an ?_;rintro k n5 d5 b5 H1 ⟨hle,hk,hn⟩;refine ab ?_;refine vr 1 ?_;refine aa [1,4,5,9,10,11,12] ?_;refine al ?_;refine aB rfl (fun hb=> ?_) (fun hb=> ?_)
 ·
  have hb:k<l1.length:=by simpa using hb
  obtain⟨q,dL⟩:∃q,l1[k]? = some q:=⟨_,List.getElem?_eq_getElem hb⟩;obtain⟨vs,jL,sS,E5⟩:=gE.get dL;obtain⟨n1,d1,b1,rfl⟩:=sS.cells;obtain⟨q2,xZ⟩:∃q,l2[k]? = some q:=⟨_,List.getElem?_eq_getElem (by omega)⟩;obtain⟨Jm,akb,JD,N6⟩:=N5.get xZ;obtain⟨n2,d2,b2,rfl⟩:=JD.cells;have jz:=h1 q (List.mem_of_getElem? dL);have j0:=h2 q2 (List.mem_of_getElem? xZ);have JE:=xS k hk;have akc:=nS k hk;refine au ?_;refine ag [1,4,5,9,10,11] rfl ?_;refine al ?_;refine aC ?_;refine ab ?_;refine vr 1 ?_;refine bR (vs:=[.int .i64 n1,.int .i64 d1,.pointer b1]) ae rfl rfl rfl rfl (hr.le hle) rfl (by decide) E5 (by omega) (by omega) fun _=> ?_;refine bt dM rfl ?_;refine vr 1 ?_;obtain⟨ti,aj,ak⟩:=bV;refine aJ (.inl ⟨rfl,rfl⟩) rfl rfl rfl aj ak rfl rfl rfl ?_;refine aa [1,4,5,6,7,9,10,11] ?_
  by_cases jk:fo q=0
  ·
   skip
   refine ab ?_;refine vr 1 ?_;refine aw rfl rfl (iT (sS.le hle) (by omega)) ?_;rintro v2 H2 ⟨bh,rfl⟩;refine aA false rfl rfl (mV jk) ?_;refine vr 8 ?_;refine aa [1,4,5,6,7,9,10,11,26] ?_;have gK:=hle.trans bh
   have gL:bE H2 [.int .i64 n5,.int .i64 d5,.pointer b5] (aX k (fun j=>fn l1 j*fn l2 j)+0):=by rw[Rat.add_zero];exact hn.le bh
   have hz:q*q2=0:=by rw[q6 jk,Rat.zero_mul]
   refine cU rfl ?_;refine au ?_;refine ag [1,4,5,9,10,11] rfl ?_;refine av rfl ?_;refine aD rfl rfl ⟨by omega,by omega⟩ ?_;refine vr 1 ?_;refine aq ?_;exact⟨k+1,n5,d5,b5,by omega,an,gK,by omega,by rw[fG,jC dL,jC xZ,hz];exact gL⟩
  ·
   by_cases bW:fo q2=0
   skip
   ·
    skip
    refine ab ?_;refine vr 1 ?_;refine aw rfl rfl (iT (sS.le hle) (by omega)) ?_;rintro v2 H2 ⟨bh,rfl⟩;refine aA true rfl rfl (my jk) ?_;refine vr 3 ?_;refine bR (vs:=[.int .i64 n2,.int .i64 d2,.pointer b2]) ae rfl rfl rfl rfl (dt.le (hle.trans bh)) rfl (by decide) N6 (by omega) (by omega) fun _=> ?_;refine aw rfl rfl (iT (JD.le (hle.trans bh)) (by omega)) ?_;rintro v3 H3 ⟨dC,rfl⟩;refine aA false rfl rfl (mV bW) ?_;refine vr 1 ?_;refine aa [1,4,5,6,7,9,10,11,26] ?_;have gK:=(hle.trans bh).trans dC
    have gL:bE H3 [.int .i64 n5,.int .i64 d5,.pointer b5] (aX k (fun j=>fn l1 j*fn l2 j)+0):=by rw[Rat.add_zero];exact hn.le (bh.trans dC)
    have hz:q*q2=0:=by rw[q6 bW,Rat.mul_zero]
    refine cU rfl ?_;refine au ?_;refine ag [1,4,5,9,10,11] rfl ?_;refine av rfl ?_;refine aD rfl rfl ⟨by omega,by omega⟩ ?_;refine vr 1 ?_;refine aq ?_;exact⟨k+1,n5,d5,b5,by omega,an,gK,by omega,by rw[fG,jC dL,jC xZ,hz];exact gL⟩
   ·
    skip
    refine ab ?_;refine vr 1 ?_;refine aw rfl rfl (iT (sS.le hle) (by omega)) ?_;rintro v2 H2 ⟨bh,rfl⟩;refine aA true rfl rfl (my jk) ?_;refine vr 3 ?_;refine bR (vs:=[.int .i64 n2,.int .i64 d2,.pointer b2]) ae rfl rfl rfl rfl (dt.le (hle.trans bh)) rfl (by decide) N6 (by omega) (by omega) fun _=> ?_;refine aw rfl rfl (iT (JD.le (hle.trans bh)) (by omega)) ?_;rintro v3 H3 ⟨dC,rfl⟩;refine aA true rfl rfl (my bW) ?_;refine vr 1 ?_;refine aa [1,4,5,6,7,9,10,11,26] ?_;have gK:=(hle.trans bh).trans dC;have gL:=hn.le (bh.trans dC);refine cD rfl ?_;refine dZ .bF [0,1,2,3,4,5,6,7,8] follows (by kernel_rfl) ?_;refine vr 4 ?_;refine bR (vs:=[.int .i64 n2,.int .i64 d2,.pointer b2]) ae rfl rfl rfl rfl (dt.le gK) rfl (by decide) N6 (by omega) (by omega) fun _=> ?_;refine aO rfl rfl (vM (N:=s) (sS.le gK) (JD.le gK) jz j0 (by omega)) (fun _ _ h=>by first | exact h.le | exact h.1) ?_;rintro w3 G3 ⟨ng,vs3,rfl,gD⟩;obtain⟨n3,d3,b3,rfl,_⟩:=id gD;have hzm:=pc q q2;obtain⟨M,N7,hM2,N8⟩:∃M,aG (aX k (fun j=>fn l1 j*fn l2 j))≤M∧aG (q*q2)≤M∧(M:Int)≤1099511627776:=⟨max (k*(2*s+1)+1) (2*(2*s+2)),by omega,by omega,by omega⟩;refine aO rfl rfl (Jz (N:=M) (gL.le ng) gD N7 hM2 N8) (fun _ _ h=>by first | exact h.le | exact h.1) ?_
    rintro w4 G4 ⟨kJ,zZ,rfl,ct⟩;obtain⟨n4,d4,b4,rfl,_⟩:=id ct;obtain⟨ti,aj,ak⟩:=bV;refine aJ (.inl ⟨rfl,rfl⟩) rfl rfl rfl aj ak rfl rfl rfl ?_;refine aq ?_;refine ag [1,4,5,9,10,11] rfl ?_;refine av rfl ?_;refine aD rfl rfl ⟨by omega,by omega⟩ ?_;refine vr 1 ?_;refine aq ?_;exact⟨k+1,n4,d4,b4,by omega,an,gK.trans (ng.trans kJ),by omega,by rw[fG,jC dL,jC xZ];exact ct⟩
 ·
  have hb:l1.length≤k:=by simpa using hb
  obtain rfl:k=l1.length:=by omega
  refine aU ?_;refine ag [4,5] rfl ?_;refine ab ?_;refine vr 1 ?_;obtain⟨ti,aj,ak⟩:=bV;refine aJ (.inl ⟨rfl,rfl⟩) rfl rfl rfl aj ak rfl rfl rfl ?_;refine aa [4] ?_;obtain⟨bX,aK,aL⟩:=bV;refine az ⟨.inr rfl,_,.agg rfl Tryz.underlying90 aK aL (.nil),?_⟩;exact⟨hle,_,rfl,hn⟩
end Go.ar
namespace Lp
namespace ao
def ra(T:ao)(j:Nat):Prop:=∃k,k<T.m∧T.B k=j
section
variable {T S:ao}
theorem U1(hT:T.WF)(h:jP T S){i j:Nat}(hi:i<S.m)(hj:j≤T.n):S.A i j=aX T.m (fun k=>S.A i (T.B k)*T.A k j):=by
 have h1:=(h.m6 _).2 (xQ hT j hj) i hi
 rw[h.n,Cx T hT.lt j hj]at h1
 grind
theorem ad6(hT:T.WF)(h:jP T S){j:Nat}(hj:j≤T.n):S.c j=T.c j+aX T.m (fun k=>S.c (T.B k)*T.A k j):=by
 have h1:=h.cost _ (xQ hT j hj)
 rw[Cy hT j hj]at h1
 unfold cost at h1
 rw[h.n,Cx T hT.lt j hj]at h1
 grind
theorem exchange(hT:T.WF)(hS:S.WF)(h:jP T S){i0:Nat}(hi:i0<S.m)(hn:¬T.ra (S.B i0)):∃r,r<T.m∧T.A r (S.B i0)≠0∧¬S.ra (T.B r):=by
 false_or_by_contra
 rename_i hc
 have bU:=hS.lt i0 hi
 have h1:=U1 hT h hi (j:=S.B i0) (by rw[h.n]at bU;omega)
 rw[hS.unit i0 i0 hi hi,if_pos rfl,mE]at h1
 ·grind
 ·intro k hk
  by_cases e:T.A k (S.B i0)=0
  ·rw[e];grind
  ·by_cases hb:S.ra (T.B k)
   ·obtain⟨i',fH,e'⟩:=hb
    have aY:i0≠i':=fun e0=>hn ⟨k,hk,by rw[e0];exact e'.symm⟩
    rw[←e',hS.unit i' i0 fH hi,if_neg aY];grind
   ·exact absurd ⟨k,hk,e,hb⟩ hc
open Classical in
noncomputable def sT(T S:ao):Nat:=(List.range S.m).countP fun i=>decide (¬T.ra (S.B i))
theorem ad7{r s j:Nat}(h:T.ra j)(hj:j≠T.B r):(T.pivot r s).ra j:=by
 obtain⟨k,hk,e⟩:=h
 refine⟨k,hk,?_⟩
 show (if k=r then s else T.B k)=j
 rw[if_neg (fun e'=>hj (by rw[←e,e'])),e]
theorem ad8{r i0:Nat}(hr:r<T.m)(hi:i0<S.m)(hn:¬T.ra (S.B i0))(hb:¬S.ra (T.B r)):sT (T.pivot r (S.B i0)) S<sT T S:=by
 unfold sT
 refine Uv _ _ _ (fun i zj hd=> ?_) ⟨i0,List.mem_range.2 hi,?_,?_⟩
 ·simp only[decide_eq_true_eq]at hd⊢
  exact fun gg=>hd (ad7 gg (fun e=>hb ⟨i,List.mem_range.1 zj,e⟩))
 ·simp only[decide_eq_true_eq];exact hn
 ·simp only[decide_eq_false_iff_not,Classical.not_not]
  exact⟨r,hr,by show (if r=r then S.B i0 else T.B r)=_;rw[if_pos rfl]⟩
def fe(D X:Nat)(q:Rat):Prop:=∃z:Int,q*(D:Rat)=(z:Rat)∧z.natAbs≤X
def lz(n j k z:Nat):Nat:=if j=n then k else z
structure BdD(D0 f e D:Nat)(T:ao):Prop where
 pos:0<D
 le:D≤2^e
 A:∀i,i<T.m→∀j,j≤T.n→fe (D*lz T.n j D0 1) (2^(e+lz T.n j f 0)) (T.A i j)
 c:∀j,j≤T.n→fe (D*lz T.n j D0 1) (2^(e+lz T.n j f 0)) (T.c j)
def Bd(D0 f e:Nat)(T:ao):Prop:=∃D:Nat,BdD D0 f e D T
theorem CC{n j k z:Nat}(h:j<n):lz n j k z=z:=if_neg (by omega)
theorem JF{n k z:Nat}:lz n n k z=k:=if_pos rfl
theorem fe.mono{D X Y:Nat}{q:Rat}(h:fe D X q)(hl:X≤Y):fe D Y q:=by
 obtain⟨z,h1,h2⟩:=h
 exact⟨z,h1,Nat.le_trans h2 hl⟩
theorem Bd.mono{D0 f e e':Nat}(h:Bd D0 f e T)(hl:e≤e'):Bd D0 f e' T:=by
 obtain⟨D,h1,h2,h3,h4⟩:=h
 have hp:∀k,2^(e+k)≤2^(e'+k):=fun k=>Nat.pow_le_pow_right (by decide) (by omega)
 exact⟨D,h1,Nat.le_trans h2 (hp 0),fun i hi j hj=>(h3 i hi j hj).mono (hp _),fun j hj=>(h4 j hj).mono (hp _)⟩
theorem natAbs_sub_le(a b:Int):(a-b).natAbs≤a.natAbs+b.natAbs:=by omega
theorem N9{D K:Nat}{N z1 z2 z3:Int}{a b c d:Rat}{X Y:Nat}(hD:(D:Rat)≠0)(hN:(N:Rat)≠0)(h:d*(D:Rat)=(N:Rat))(h1:a*((D*K:Nat):Rat)=(z1:Rat))(h2:b*(D:Rat)=(z2:Rat))(h3:c*((D*K:Nat):Rat)=(z3:Rat))
  (k1:z1.natAbs≤Y) (k2:z2.natAbs≤X) (k3:z3.natAbs≤Y) (k:N.natAbs≤X):fe (D*N.natAbs*K) (2*(X*Y)) (a-b*(c/d)):=by
 refine⟨N.sign*(z1*N-z2*z3),?_,?_⟩
 ·have e1:((D*N.natAbs*K:Nat):Rat)=(D:Rat)*((N.sign:Rat)*(N:Rat))*(K:Rat):=by
   have jo:(N.natAbs:Int)=N.sign*N:=by
    rcases Int.lt_trichotomy N 0 with h | h | h
    ·rw[Int.sign_eq_neg_one_of_neg h];omega
    ·subst h;rfl
    ·rw[Int.sign_eq_one_of_pos h];omega
   have:((N.natAbs:Int):Rat)=((N.sign*N:Int):Rat):=by rw[jo]
   rw[Rat.natCast_mul,Rat.natCast_mul]
   have h0:((N.natAbs:Nat):Rat)=((N.natAbs:Int):Rat):=rfl
   rw[h0,this,Rat.intCast_mul]
  have hd:d≠0:=fun e=>by rw[e]at h;grind
  rw[Rat.natCast_mul]at h1 h3
  rw[e1,Rat.intCast_mul,Rat.intCast_sub,Rat.intCast_mul,Rat.intCast_mul,←h1,←h2,←h3,←h]
  grind
 ·have hs:N.sign.natAbs≤1:=by
   rw[Int.natAbs_sign];split <;> omega
  rw[Int.natAbs_mul]
  have h4:=natAbs_sub_le (z1*N) (z2*z3)
  rw[Int.natAbs_mul,Int.natAbs_mul]at h4
  have h5:z1.natAbs*N.natAbs≤X*Y:=by rw[Nat.mul_comm];exact Nat.mul_le_mul k k1
  have h6:z2.natAbs*z3.natAbs≤X*Y:=Nat.mul_le_mul k2 k3
  have h7:N.sign.natAbs*(z1*N-z2*z3).natAbs≤1*(z1*N-z2*z3).natAbs:=Nat.mul_le_mul_right _ hs
  omega
theorem Oa(e f:Nat):2*(2^e*2^(e+f))=2^(2*e+1+f):=by
 rw[show 2*e+1+f=(e+(e+f))+1 by omega,Nat.pow_succ,Nat.pow_add 2 e (e+f),Nat.mul_comm]
theorem Bd.pivot{D0 f e r s:Nat}(h:Bd D0 f e T)(hr:r<T.m)(hs:s<T.n)(hp:T.A r s≠0):Bd D0 f (2*e+1) (T.pivot r s):=by
 obtain⟨D,h1,h2,h3,h4⟩:=h
 have one:∀{q:Rat},fe (D*lz T.n s D0 1) (2^(e+lz T.n s f 0)) q→fe D (2^e) q:=fun h=>by rwa [CC hs,CC hs,Nat.mul_one]at h
 obtain⟨N,hN,JG⟩:=one (h3 r hr s (by omega))
 have hD:(D:Rat)≠0:=fun e=>by
  have:D=0:=by exact_mod_cast e
  omega
 have CD:(N:Rat)≠0:=by
  rw[←hN]
  intro e0
  rcases Rat.mul_eq_zero.1 e0 with h | h
  ·exact hp h
  ·exact hD h
 have hNz:N≠0:=fun e=>CD (by rw[e];rfl)
 refine⟨D*N.natAbs,Nat.mul_pos h1 (by omega),?_,fun i hi j hj=> ?_,fun j hj=> ?_⟩
 ·have:=Oa e 0
  rw[Nat.add_zero,Nat.add_zero]at this
  rw[←this]
  have:=Nat.mul_le_mul h2 JG
  omega
 ·show fe (D*N.natAbs*lz T.n j D0 1) (2^(2*e+1+lz T.n j f 0)) _
  rw[←Oa]
  obtain⟨z3,k3,l3⟩:=h3 r hr j hj
  show fe _ _ (if i=r then T.A r j/T.A r s else T.A i j-T.A i s*(T.A r j/T.A r s))
  by_cases e':i=r
  ·rw[if_pos e']
   have e3:(-1:Rat)*(D:Rat)=((-(D:Int):Int):Rat):=by
    rw[Rat.intCast_neg]
    have:((D:Int):Rat)=(D:Rat):=rfl
    rw[this];grind
   have:=N9 (z1:=0) (a:=0) (z2:= -(D:Int)) (b:= -1) hD CD hN (by grind) e3 k3 (by omega) (by omega) l3 JG
   have e2:(0:Rat) - -1*(T.A r j/T.A r s)=T.A r j/T.A r s:=by grind
   rwa [e2]at this
  ·rw[if_neg e']
   obtain⟨z1,k1,l1⟩:=h3 i hi j hj
   obtain⟨z2,k2,l2⟩:=one (h3 i hi s (by omega))
   exact N9 hD CD hN k1 k2 k3 l1 l2 l3 JG
 ·show fe (D*N.natAbs*lz T.n j D0 1) (2^(2*e+1+lz T.n j f 0)) _
  rw[←Oa]
  obtain⟨z3,k3,l3⟩:=h3 r hr j hj
  obtain⟨z1,k1,l1⟩:=h4 j hj
  obtain⟨z2,k2,l2⟩:=one (h4 s (by omega))
  exact N9 hD CD hN k1 k2 k3 l1 l2 l3 JG
theorem reach{D0 f:Nat}(hS:S.WF):∀(k e:Nat)(T:ao),T.WF→jP T S→Bd D0 f e T→sT T S≤k→∃T':ao,T'.WF∧jP T' S∧(∀i,i<S.m→T'.ra (S.B i))∧Bd D0 f (2^k*(e+1)-1) T':=by
 intro k
 induction k with
 | zero=>
  intro e T hT h hb hc
  refine⟨T,hT,h,fun i hi=> ?_,by rw[Nat.pow_zero,Nat.one_mul];exact hb⟩
  false_or_by_contra
  rename_i hn
  have:0<sT T S:=by
   unfold sT
   exact List.countP_pos_iff.2 ⟨i,List.mem_range.2 hi,by simp only[decide_eq_true_eq];exact hn⟩
  omega
 | succ k ih=>
  intro e T hT h hb hc
  by_cases ha:∀i,i<S.m→T.ra (S.B i)
  ·refine⟨T,hT,h,ha,hb.mono ?_⟩
   have:1*(e+1)≤2^(k+1)*(e+1):=Nat.mul_le_mul_right _ Nat.one_le_two_pow
   omega
  ·obtain⟨i0,ha⟩:=Classical.not_forall.1 ha
   obtain⟨hi,hn⟩:=Classical.not_imp.1 ha
   obtain⟨r,hr,hp,tP⟩:=exchange hT hS h hi hn
   have bU:=hS.lt i0 hi
   rw[h.n]at bU
   obtain⟨T',h1,h2,h3,h4⟩:=ih (2*e+1) (T.pivot r (S.B i0)) (zN hT hr bU hp) ((jP.pivot hr hp).symm.trans h) (hb.pivot hr bU hp) (by have:=ad8 hr hi hn tP;omega)
   refine⟨T',h1,h2,h3,?_⟩
   have e2:2^k*(2*e+1+1)=2^(k+1)*(e+1):=by
    rw[Nat.pow_succ,Nat.mul_assoc]
    congr 1
   rwa [e2]at h4
theorem aea{D0 f e k:Nat}(hT:T.WF)(hS:S.WF)(h:jP T S)(hb:Bd D0 f e T)(hk:sT T S≤k):Bd D0 f (2^k*(e+1)-1) S:=by
 obtain⟨T',h1,h2,h3,D,hD,hX,hA,hC⟩:=reach hS k e T hT h hb hk
 have gg:∀i,i<S.m→∀k,k<T'.m→∀i',i'<S.m→T'.B k=S.B i→T'.A k (S.B i')=if i'=i then 1 else 0:=by
  intro i hi k hk i' fH e
  obtain⟨k',iw,e'⟩:=h3 i' fH
  rw[←e',h1.unit k' k iw hk]
  by_cases e0:i'=i
  ·rw[if_pos e0,if_pos (h1.inj hk iw (by rw[e,e',e0]))]
  ·rw[if_neg e0,if_neg (fun e1=>e0 (hS.inj fH hi (by rw[←e',←e,e1])))]
 refine⟨D,hD,hX,fun i hi j hj=> ?_,fun j hj=> ?_⟩
 ·obtain⟨k,hk,e⟩:=h3 i hi
  have h4:=U1 hS h2.symm (i:=k) (j:=j) hk hj
  rw[sP (k:=i) hi _ (fun i' fH aY=>by rw[gg i hi k hk i' fH e,if_neg aY];grind),gg i hi k hk i hi e,if_pos rfl]at h4
  have h5:=hA k hk j (by rw[←h2.n];exact hj)
  rw[h4,←h2.n]at h5
  have e6:1*S.A i j=S.A i j:=by grind
  rwa [e6]at h5
 ·have h4:=ad6 hS h2.symm (j:=j) hj
  rw[mE]at h4
  ·have h5:=hC j (by rw[←h2.n];exact hj)
   rw[h4,←h2.n]at h5
   have e6:S.c j+0=S.c j:=by grind
   rwa [e6]at h5
  ·intro i hi
   obtain⟨k,hk,e⟩:=h3 i hi
   rw[←e,h1.zero k hk];grind
theorem aeb(T S:ao):sT T S≤S.m:=by
 unfold sT
 exact Nat.le_trans List.countP_le_length (by rw[List.length_range];exact Nat.le_refl _)
theorem U2:∀(n:Nat)(l:List Nat),l.Nodup→(∀x,x∈l→x<n)→l.length≤n
 | 0,l,_,h=>by
  cases l with
  | nil=>exact Nat.le_refl _
  | cons x l=>exact absurd (h x (List.mem_cons_self ..)) (Nat.not_lt_zero _)
 | n+1,l,hd,h=>by
  have h1:=U2 n (l.erase n) (hd.erase n) fun x hx=>by
   have h2:=(hd.mem_erase_iff).1 hx
   have:=h x h2.2
   have:=h2.1
   omega
  have h2:l.length≤(l.erase n).length+1:=by
   rw[List.length_erase];split <;> omega
  omega
theorem Ob{f:Nat→Nat}:∀{l:List Nat},l.Nodup→(∀x,x∈l→∀y,y∈l→f x=f y→x=y)→(l.map f).Nodup
 | [],_,_=>List.nodup_nil
 | x::l,h,hi=>by
  rw[List.nodup_cons]at h
  rw[List.map_cons,List.nodup_cons]
  refine⟨fun hm=> ?_,Ob h.2 fun y hy z hz=>hi y (List.mem_cons_of_mem _ hy) z (List.mem_cons_of_mem _ hz)⟩
  obtain⟨y,hy,e⟩:=List.mem_map.1 hm
  have:=hi y (List.mem_cons_of_mem _ hy) x (List.mem_cons_self ..) e
  exact h.1 (this▸hy)
open Classical in
theorem aec(hT:T.WF)(hS:S.WF)(h:jP T S):sT T S+T.m≤T.n:=by
 unfold sT
 rw[List.countP_eq_length_filter]
 generalize hl:(List.range S.m).filter (fun i=>decide (¬T.ra (S.B i)))=l
 have x6:∀i,i∈l→i<S.m∧¬T.ra (S.B i):=fun i hi=>by
  rw[←hl,List.mem_filter]at hi
  exact⟨List.mem_range.1 hi.1,of_decide_eq_true hi.2⟩
 have Oc:l.Nodup:=by rw[←hl];exact List.Pairwise.filter _ List.nodup_range
 have h1:=U2 T.n (l.map S.B++(List.range T.m).map T.B) ?_ ?_
 ·rwa [List.length_append,List.length_map,List.length_map,List.length_range]at h1
 ·rw[List.nodup_append]
  refine⟨Ob Oc fun x hx y hy e=>hS.inj (x6 x hx).1 (x6 y hy).1 e,Ob List.nodup_range fun x hx y hy e=>hT.inj (List.mem_range.1 hx) (List.mem_range.1 hy) e,fun a ha b hb e=> ?_⟩
  obtain⟨i,hi,rfl⟩:=List.mem_map.1 ha
  obtain⟨k,hk,rfl⟩:=List.mem_map.1 hb
  exact(x6 i hi).2 ⟨k,List.mem_range.1 hk,e.symm⟩
 ·intro x hx
  rcases List.mem_append.1 hx with hx | hx
  ·obtain⟨i,hi,rfl⟩:=List.mem_map.1 hx
   have:=hS.lt i (x6 i hi).1
   rw[←h.n];exact this
  ·obtain⟨i,hi,rfl⟩:=List.mem_map.1 hx
   exact hT.lt i (List.mem_range.1 hi)
theorem aed{D X:Nat}{q:Rat}(hD:0<D)(h:fe D X q):q.num.natAbs≤X∧q.den≤D:=by
 obtain⟨z,h1,h2⟩:=h
 have hD':(D:Rat)≠0:=fun e=>by
  have:D=0:=by exact_mod_cast e
  omega
 have e:mkRat z D=q:=by
  rw[Rat.mkRat_eq_div]
  grind
 obtain⟨k,hk,h3,h4⟩:=Rat.mkRat_num_den (n:=z) (d:=D) (by omega) (n':=q.num) (d':=q.den) (z':=q.den_nz) (c:=q.reduced) e
 refine⟨?_,?_⟩
 ·rw[h3,Int.natAbs_mul,Int.natAbs_natCast]at h2
  exact Nat.le_trans (Nat.le_mul_of_pos_right _ (by omega)) h2
 ·rw[h4]
  exact Nat.le_mul_of_pos_right _ (by omega)
def wt(q:Rat):Nat:=q.num.natAbs.log2+q.den.log2+2
theorem aee(q:Rat):q.num.natAbs≤2^wt q:=by
 have h1:=Nat.lt_log2_self (n:=q.num.natAbs)
 have h2:=Nat.pow_le_pow_right (n:=2) (by decide) (show q.num.natAbs.log2+1≤wt q by unfold wt;omega)
 omega
theorem aef(q:Rat):q.den≤2^wt q:=by
 have h1:=Nat.lt_log2_self (n:=q.den)
 have h2:=Nat.pow_le_pow_right (n:=2) (by decide) (show q.den.log2+1≤wt q by unfold wt;omega)
 omega
def fL:List Rat→Nat
 | []=>0
 | q::l=>wt q+fL l
def iD:List Rat→Nat
 | []=>1
 | q::l=>q.den*iD l
theorem JH(l:List Rat):0<iD l:=by
 induction l with
 | nil=>exact Nat.one_pos
 | cons q l ih=>exact Nat.mul_pos (Nat.pos_of_ne_zero q.den_nz) ih
theorem CE(l:List Rat):iD l≤2^fL l:=by
 induction l with
 | nil=>exact Nat.le_refl _
 | cons q l ih=>
  simp only[iD,fL,Nat.pow_add]
  exact Nat.mul_le_mul (aef q) ih
theorem aeg{l:List Rat}{q:Rat}(h:q∈l):∃k,iD l=q.den*k:=by
 induction l with
 | nil=>cases h
 | cons r l ih=>
  rcases List.mem_cons.1 h with rfl | h
  ·exact⟨_,rfl⟩
  ·obtain⟨k,hk⟩:=ih h
   exact⟨r.den*k,by simp only[iD,hk];rw[Nat.mul_left_comm]⟩
theorem aeh{l:List Rat}{q:Rat}(h:q∈l):wt q≤fL l:=by
 induction l with
 | nil=>cases h
 | cons r l ih=>
  simp only[fL]
  rcases List.mem_cons.1 h with rfl | h
  ·omega
  ·have:=ih h;omega
theorem Od{l:List Rat}{q:Rat}(h:q∈l):fe (iD l) (2^(2*fL l)) q:=by
 obtain⟨k,hk⟩:=aeg h
 refine⟨q.num*k,?_,?_⟩
 ·rw[hk,Rat.natCast_mul,Rat.intCast_mul]
  have h1:q*(q.den:Rat)=(q.num:Rat):=by
   have hd:(q.den:Rat)≠0:=fun e=>q.den_nz (by exact_mod_cast e)
   have e:=Rat.mkRat_self q
   rw[Rat.mkRat_eq_div]at e
   grind
  have h2:((k:Int):Rat)=(k:Rat):=rfl
  rw[h2,←h1];grind
 ·rw[Int.natAbs_mul,Int.natAbs_natCast]
  have h1:=aee q
  have h2:=Nat.pow_le_pow_right (n:=2) (by decide) (aeh h)
  have h3:k≤iD l:=by
   rw[hk];exact Nat.le_mul_of_pos_left _ (Nat.pos_of_ne_zero q.den_nz)
  have h4:=CE l
  rw[Nat.two_mul,Nat.pow_add]
  exact Nat.mul_le_mul (Nat.le_trans h1 h2) (Nat.le_trans h3 h4)
theorem U3(l:List Rat)(z:Int)(hz:z.natAbs≤1):fe (iD l) (2^(2*fL l)) (z:Rat):=by
 refine⟨z*iD l,?_,?_⟩
 ·rw[Rat.intCast_mul];rfl
 ·rw[Int.natAbs_mul,Int.natAbs_natCast]
  have h1:z.natAbs*iD l≤1*iD l:=Nat.mul_le_mul_right _ hz
  have h2:=CE l
  have h3:=Nat.pow_le_pow_right (n:=2) (by decide) (show fL l≤2*fL l by omega)
  omega
theorem fe.neg{D X:Nat}{q:Rat}(h:fe D X q):fe D X (-q):=by
 obtain⟨z,h1,h2⟩:=h
 exact⟨-z,by rw[Rat.intCast_neg,←h1];grind,by omega⟩
theorem fe.sub{D X Y:Nat}{q r:Rat}(h:fe D X q)(k:fe D Y r):fe D (X+Y) (q-r):=by
 obtain⟨z,h1,h2⟩:=h
 obtain⟨y,k1,k2⟩:=k
 exact⟨z-y,by rw[Rat.intCast_sub,←h1,←k1];grind,by omega⟩
theorem JI(D X:Nat):fe D X 0:=⟨0,by grind,by simp⟩
theorem aei{D X:Nat}(m:Nat)(f:Nat→Rat)(h:∀i,i<m→fe D X (f i)):fe D (m*X) (aX m f):=by
 induction m with
 | zero=>rw[Cw];exact JI _ _
 | succ m ih=>
  rw[fG,Nat.succ_mul]
  obtain⟨z,h1,h2⟩:=ih (fun i hi=>h i (by omega))
  obtain⟨y,k1,k2⟩:=h m (by omega)
  exact⟨z+y,by rw[Rat.intCast_add,←h1,←k1];grind,by omega⟩
end
end ao
end Lp
namespace Go.ar
open Go.Proofs Num Lp
def aH(f:Nat→Rat)(n:Nat):List Rat:=(List.range n).map f
theorem aW(f:Nat→Rat)(n:Nat):(aH f n).length=n:=by simp[aH]
theorem di{f:Nat→Rat}{n j:Nat}(h:j<n):(aH f n)[j]? = some (f j):=by simp[aH,h]
theorem j6{f g:Nat→Rat}{n:Nat}(h:∀j,j<n→f j=g j):aH f n=aH g n:=by
 apply List.ext_getElem?
 intro j
 by_cases hj:j<n
 ·rw[di hj,di hj,h j hj]
 ·rw[List.getElem?_eq_none (by rw[aW];omega),List.getElem?_eq_none (by rw[aW];omega)]
theorem CF{f:Nat→Rat}{n j:Nat}(h:j<n):fn (aH f n) j=f j:=jC (di h)
def jD(f g:Nat→Rat)(k:Nat)(j:Nat):Rat:=if j<k then f j else g j
theorem U4{f g:Nat→Rat}{n k:Nat}:(aH (jD f g k) n).set k (f k)=aH (jD f g (k+1)) n:=by
 apply List.ext_getElem?
 intro j
 by_cases hj:j<n
 ·by_cases e:j=k
  ·subst e
   rw[List.getElem?_set_self (by rw[aW];exact hj),di hj]
   simp[jD]
  ·rw[List.getElem?_set_ne (fun e'=>e e'.symm),di hj,di hj]
   unfold jD
   by_cases h:j<k
   ·rw[if_pos h,if_pos (by omega)]
   ·rw[if_neg h,if_neg (by omega)]
 ·rw[List.getElem?_eq_none (by rw[List.length_set,aW];omega),List.getElem?_eq_none (by rw[aW];omega)]
theorem U5{f g:Nat→Rat}{n k:Nat}(h:f k=g k):aH (jD f g k) n=aH (jD f g (k+1)) n:=j6 fun j _=>by
 unfold jD
 by_cases e:j=k
 ·subst e;rw[if_neg (by omega),if_pos (by omega),h]
 ·by_cases h':j<k
  ·rw[if_pos h',if_pos (by omega)]
  ·rw[if_neg h',if_neg (by omega)]
theorem U6{f g:Nat→Rat}{n:Nat}:aH (jD f g 0) n=aH g n:=j6 fun j _=>by simp[jD]
theorem U7{f g:Nat→Rat}{n:Nat}:aH (jD f g n) n=aH f n:=j6 fun j hj=>by simp[jD,hj]
def kW(K:Heap)(H:Heap)(g:Nat)(l:List Rat):Prop:=∃xs sz,H g=some ⟨xs,sz,90,true⟩∧bC (bE K) 3 xs l
theorem kW.le{K K' H H':Heap}{g:Nat}{l:List Rat}(h:kW K H g l)(hl:Heap.le K K')(hs:H' g=H g):kW K' H' g l:=by
 obtain⟨xs,sz,h1,h2⟩:=h
 exact⟨xs,sz,by rw[hs];exact h1,h2.mono fun vs a=>fJ _ _ vs a hl⟩
theorem kW.rd{K H:Heap}{g:Nat}{l:List Rat}(h:kW K H g l){i:Nat}{q:Rat}(hq:l[i]? = some q):∃xs n d b,Rd H (some ⟨g,0,none⟩) xs∧bE K [.int .i64 n,.int .i64 d,.pointer b] q∧∀(j:Nat)(v:Value),[.int .i64 n,.int .i64 d,.pointer b][j]? = some v→xs[i*3+j]? = some v:=by
 obtain⟨xs,sz,h1,h2⟩:=h
 obtain⟨vs,_,h3,h4⟩:=h2.get hq
 obtain⟨n,d,b,rfl⟩:=h3.cells
 exact⟨xs,n,d,b,dF h1,h3,h4⟩
structure Kept(gs:List Nat)(H H':Heap):Prop where
 le:Heap.le (rem H gs) (rem H' gs)
 same:∀q,q∈gs→H' q=H q
structure fE(gs:List Nat)(g:Nat)(H H':Heap):Prop where
 le:Heap.le (rem H gs) (rem H' gs)
 same:∀q,q∈gs→q≠g→H' q=H q
theorem Kept.refl(gs:List Nat)(H:Heap):Kept gs H H:=⟨.refl _,fun _ _=>rfl⟩
theorem Kept.trans{gs:List Nat}{A B C:Heap}(h:Kept gs A B)(k:Kept gs B C):Kept gs A C:=⟨h.le.trans k.le,fun q hq=>(k.same q hq).trans (h.same q hq)⟩
theorem fE.trans{gs:List Nat}{g:Nat}{A B C:Heap}(h:fE gs g A B)(k:fE gs g B C):fE gs g A C:=⟨h.le.trans k.le,fun q hq aY=>(k.same q hq aY).trans (h.same q hq aY)⟩
theorem Kept.il{gs:List Nat}{H H':Heap}(h:Kept gs H H')(g:Nat):fE gs g H H':=⟨h.le,fun q hq _=>h.same q hq⟩
theorem fE.ins{gs:List Nat}{g:Nat}{H H':Heap}(h:fE gs g H H')(hg:g∈gs)(e:Ent):fE gs g H (ins H' g e):=
 ⟨by rw[cC _ hg];exact h.le,fun q hq aY=>by rw[a7 _ _ aY];exact h.same q hq aY⟩
theorem Kept.of{gs:List Nat}{H H':Heap}{v:Value}{bx:Value→Heap→Prop}(h:xO gs bx H v H')(hl:∀v K,bx v K→Heap.le (rem H gs) K):Kept gs H H':=⟨hl _ _ h.post,h.same⟩
theorem Kept.ne{gs:List Nat}{H H':Heap}(h:Kept gs H H')(hn:∀q,q∈gs→H q≠none):∀q,q∈gs→H' q≠none:=fun q hq=>by rw[h.same q hq];exact hn q hq
structure U8(gs:List Nat)(H:Heap)(q:Rat)(v:Value)(H':Heap):Prop where
 kept:Kept gs H H'
 le:Heap.le H H'
 val:∃n d b,v=N3 n d b∧bE (rem H' gs) [.int .i64 n,.int .i64 d,.pointer b] q
structure FrI(gs:List Nat)(H:Heap)(x:Value)(v:Value)(H':Heap):Prop where
 kept:Kept gs H H'
 le:Heap.le H H'
 val:v=x
theorem Fn.iU{P:Program}{f:FuncId}{args:Array Value}{H:Heap}{gs:List Nat}{q:Rat}(jA:∀g,g∈gs→H g≠none)(h:Fn P f args (rem H gs) (qY (rem H gs) q)):Fn P f args H (U8 gs H q):=
 (Fn.frame jA h).mono fun v H' hf=>by
  refine⟨.of hf fun v K hp=>hp.1,hf.le fun v K hp=>hp.1,?_⟩
  obtain⟨_,vs,rfl,hn⟩:=hf.post
  obtain⟨n,d,b,rfl⟩:=hn.cells
  exact⟨n,d,b,rfl,hn⟩
theorem Fn.kX{P:Program}{f:FuncId}{args:Array Value}{H:Heap}{gs:List Nat}{x:Value}(jA:∀g,g∈gs→H g≠none)(h:Fn P f args (rem H gs) (fun v H'=>Heap.le (rem H gs) H'∧v=x)):Fn P f args H (FrI gs H x):=
 (Fn.frame jA h).mono fun v H' hf=>⟨.of hf fun v K hp=>hp.1,hf.le fun v K hp=>hp.1,hf.post.2⟩
theorem kW.set{K H:Heap}{g:Nat}{f b:Nat→Rat}{n k:Nat}{xs:List Value}{sz:Nat}(h2:bC (bE K) 3 xs (aH (jD f b k) n))(hk:k<n){vs:List Value}(hv:bE K vs (f k))(e:H g=some ⟨aI xs (k*3) vs,sz,90,true⟩):kW K H g (aH (jD f b (k+1)) n):=by
 refine⟨_,_,e,?_⟩
 rw[←U4]
 exact h2.set (by rw[aW];exact hk) hv hv.len
end Go.ar
namespace Go.ar
open Go.Proofs Num Lp
theorem U9{H:Heap}{gs:List Nat}{g gl gr:Nat}{ts:List Value}{Ar:Option Addr}{m cr:Nat}{ox:List Value}{row n c1 cl N:Nat}{a b:Nat→Rat}{fs:List Value}{f:Rat}
 (aY:∀q,q∈gs→H q≠none) (hg:g∈gs) (vN:gl∈gs) (CG:gr∈gs) (x6:gl≠gr) (E6:g≠gl) (ht:H g=some ⟨ts,9,97,true⟩) (x8:ts[6]? = some (.slice Ar m cr)) (lP:Rd (rem H gs) Ar ox) (E7:row<m) (jN:ox[row]? = some (.slice (some ⟨gr,0,none⟩) n c1))
 (tP:kW (rem H gs) H gr (aH a n)) (ko:kW (rem H gs) H gl (aH b n)) (hf:bE (rem H gs) fs f) (hN:(N:Int)≤549755813888) (hn:(n:Int)≤1099511627776) (sf:aG f≤N) (sa:∀j,j<n→aG (a j)≤N) (sb:∀j,j<n→aG (b j)≤N):
 Fn Tryz.prog 125 #[.pointer (some ⟨g,0,none⟩),.slice (some ⟨gl,0,none⟩) n cl,.int .i64 (row:Int),.agg fs.toArray] H (fun _ H'=>fE gs gl H H'∧kW (rem H' gs) H' gl (aH (fun j=>b j-f*a j) n)):=by
 obtain⟨nf,df,bf,rfl⟩:=hf.cells;refine aZ (args:=[_,_,_,_]) Tryz.func125 rfl rfl Tryz.ntmps125 rfl rfl fun w0=> ?_;refine ag [0,1,2,3] rfl ?_;refine ab ?_;refine bS rfl rfl ?_;refine aa [0,1,2,7] ?_;refine al ?_;refine ab ?_;refine vr 1 ?_;refine aw rfl rfl (Fn.kX aY (iT hf (by omega))) ?_;rintro v1 H1 ⟨fW,bH,rfl⟩;refine vr 1 ?_;refine aa [0,1,2,7,12] ?_;refine aB rfl (fun hb=> ?_) (fun hb=> ?_)
 ·
  have hb:f=0:=q6 (by simpa using hb);refine az ⟨.inr rfl,_,.nil,?_⟩;exact⟨fW.il gl,by rw[j6 (g:=b) (fun j _=>by rw[hb];grind)];exact ko.le fW.le (fW.same gl vN)⟩
 ·
  skip
  refine au ?_;refine ag [0,1,2,7] rfl ?_;refine ab ?_;refine vr 2 ?_;refine aS ae rfl rfl rfl ?_;refine aN ae rfl rfl rfl (by rw[show cell H1 ((⟨g,0,none⟩:Addr).add 6)=ts[6]? by simp[cell,iA,fW.same g hg,ht]];exact x8) ?_;refine vr 1 ?_;refine aM ae rfl rfl rfl rfl rfl ((lP.le fW.le).le (bG _ _)) (by rw[Int.toNat_natCast];exact jN) (by omega) (by omega) fun _=> ?_;refine vr 2 ?_;refine aa [1,7,19,20,21] ?_;have Oe:=tP.le fW.le (fW.same gr CG);have aej:=ko.le fW.le (fW.same gl vN);have iL:=hf.le fW.le;have aek:=fW.ne aY;clear tP ko hf aY ht lP;refine aC ?_;refine fZ (fun(k:Nat)=>n-k) (fun(k:Nat)=>put (put (put (put (put (emp) 1 (.val (.slice (some ⟨gl,0,none⟩) n cl))) 7 (.box [.int .i64 nf,.int .i64 df,.pointer bf])) 19 (.val (.slice (some ⟨gr,0,none⟩) n c1))) 20 (.val (.int .i64 (n:Int)))) 21 (.val (.int .i64 (k:Int)))) (fun(k:Nat) H'=>fE gs gl H1 H'∧kW (rem H' gs) H' gl (aH (jD (fun j=>b j-f*a j) b k) n)∧k≤n) 0 (⟨(Kept.refl _ _).il _,by rw[U6];exact aej,Nat.zero_le _⟩) an ?_;rintro k H2 ⟨eS,cS,fA⟩;have ael:=Oe.le eS.le (eS.same gr CG (Ne.symm x6));have iM:=iL.le eS.le
  have vO:∀q,q∈gs→H2 q≠none:=fun q hq=>by
   by_cases e:q=gl
   ·
    obtain⟨xs,sz,h,_⟩:=cS;rw[e,h];simp
   ·rw[eS.same q hq e];exact aek q hq
  refine ab ?_;refine vr 1 ?_;refine aa [1,7,19,20,21,22] ?_;refine al ?_;refine aB rfl (fun hb=> ?_) (fun hb=> ?_)
  ·
   have fR:k<n:=by simpa using hb
   obtain⟨xr,na,da,ba,oy,ya,hxr⟩:=ael.rd (di fR);obtain⟨xl,nl,dl,bl,ks,yb,cB⟩:=cS.rd (di fR);rw[show jD (fun j=>b j-f*a j) b k k=b k by simp[jD]]at yb;have Of:=sa k fR;have Va:=sb k fR;refine au ?_;refine ag [1,7,19,20,21] rfl ?_;refine al ?_;refine aC ?_;refine ab ?_;refine vr 1 ?_;refine bR (vs:=[.int .i64 na,.int .i64 da,.pointer ba]) ae rfl rfl rfl rfl oy rfl (by decide) hxr (by omega) (by omega) fun _=> ?_;refine bt dM rfl ?_;refine vr 1 ?_;obtain⟨ti,aj,ak⟩:=bV;refine aJ (.inl ⟨rfl,rfl⟩) rfl rfl rfl aj ak rfl rfl rfl ?_;refine aa [1,7,8,9,19,20,21] ?_;refine ab ?_;refine vr 1 ?_;refine aw rfl rfl (Fn.kX vO (iT ya (by omega))) ?_;rintro v3 H3 ⟨de,dC,rfl⟩;have JJ:=de.ne vO;have wT:=iM.le de.le;have aem:=ya.le de.le;have aen:=yb.le de.le;refine vr 1 ?_;refine aa [1,7,8,9,19,20,21,28] ?_;refine aB rfl (fun hb=> ?_) (fun hb=> ?_)
   ·
    skip
    refine dZ .fV [0,1,2,3,4,5,6,7,8,9,10,11] follows (by kernel_rfl) ?_;refine vr 4 ?_;refine bR (vs:=[.int .i64 nl,.int .i64 dl,.pointer bl]) ae rfl rfl rfl rfl (ks.le dC) rfl (by decide) cB (by omega) (by omega) fun _=> ?_;refine vr 2 ?_;refine aO rfl rfl (Fn.iU JJ (vM (N:=N) wT aem sf Of (by omega))) (fun _ _ h=>by first | exact h.le | exact h.1) ?_;rintro v4 H4 ⟨fu,cE,n4,d4,b4,rfl,ct⟩;have aeo:=fu.ne JJ;have vk:=pc f (a k);refine aO rfl rfl (Fn.iU aeo (ug (N:=2*N) (aen.le fu.le) ct (by omega) (by omega) (by omega))) (fun _ _ h=>by first | exact h.le | exact h.1) ?_;rintro v5 H5 ⟨j7,dy,n5,d5,b5,rfl,eU⟩;obtain⟨E8,sz6,nh,uj⟩:=(cS.le (de.le.trans fu.le) ((fu.same gl vN).trans (de.same gl vN))).le j7.le (j7.same gl vN);have E9:=uj.len;rw[aW]at E9;obtain⟨ti,aj,ak⟩:=bV;refine cM (.inr rfl) ae rfl rfl rfl (by omega) (by omega) (nh) rfl (by show 0+n*3≤E8.length;omega) aj ak (fun _=>rfl) rfl rfl rfl fun _=> ?_;refine aq ?_;refine ag [1,7,19,20,21] rfl ?_;refine av rfl ?_;refine aD rfl rfl ⟨by omega,by omega⟩ ?_;refine vr 1 ?_;refine aq ?_;exact⟨k+1,by omega,an,(((eS.trans (de.il gl)).trans (fu.il gl)).trans (j7.il gl)).ins vN _,by rw[cC _ vN];exact kW.set uj fR eU (by rw[bo,Nat.zero_add];rfl),by omega⟩
   ·
    have hz:a k=0:=q6 (by simpa using hb);refine au ?_;refine ag [1,7,19,20,21] rfl ?_;refine av rfl ?_;refine aD rfl rfl ⟨by omega,by omega⟩ ?_;refine vr 1 ?_;refine aq ?_;exact⟨k+1,by omega,an,eS.trans (de.il gl),by rw[←U5 (show (fun j=>b j-f*a j) k=b k by show b k-f*a k=b k;rw[hz];grind)];exact cS.le de.le (de.same gl vN),by omega⟩
  ·
   have hb:n≤k:=by simpa using hb
   obtain rfl:k=n:=by omega
   refine aU ?_;refine⟨.inl rfl,_,.nil,?_⟩;exact⟨(fW.il gl).trans eS,by rw[←U7 (g:=b)];exact cS⟩
end Go.ar
namespace Go.ar
open Go.Proofs Num Lp
def uk(_:Heap)(vs:List Value)(z:Int):Prop:=vs = [.int .i64 z]
def uo(_:Heap)(vs:List Value)(k:Nat):Prop:=vs = [.int .i64 (k:Int)]
theorem uq:Up uk:=fun _ _ _ _ _ h=>h
theorem lY:Up uo:=fun _ _ _ _ _ h=>h
structure TL where
 w:Nat
 u:Nat
 plus:List Nat
 minus:List Int
 j8:List Nat
 jQ:List Rat
structure TG where
 g:Nat
 cr:Nat
 Ar:Option Addr
 pv:Value
 mv:Value
 uv:Value
 sv:Value
 cv:Value
 bv:Value
 rg:List (Nat×Nat)
 cb:List Nat
 bb:List Nat
def TG.gs(G:TG):List Nat:=G.g::(G.cb++(G.bb++G.rg.map (·.1)))
def TG.cells(G:TG)(w u m:Nat):List Value:=[.int .i64 (w:Int),.int .i64 (u:Int),G.pv,G.mv,G.uv,G.sv,.slice G.Ar m G.cr,G.cv,G.bv]
def ee(B:Nat→Nat)(m:Nat):List Value:=(List.range m).map fun i=> .int .i64 (B i:Int)
theorem gj{B:Nat→Nat}{m i:Nat}(h:i<m):(ee B m)[i]? = some (.int .i64 (B i:Int)):=by simp[ee,h]
theorem z7(B:Nat→Nat)(m:Nat):(ee B m).length=m:=by simp[ee]
theorem Vb{B C:Nat→Nat}{m:Nat}(h:∀i,i<m→B i=C i):ee B m=ee C m:=by
 unfold ee
 apply List.map_congr_left
 intro i hi
 rw[h i (List.mem_range.1 hi)]
structure dz(H:Heap)(G:TG)(L:TL)(T:ao):Prop where
 n:T.n=L.w
 uw:L.u≤L.w
 st:H G.g=some ⟨G.cells L.w L.u T.m,9,97,true⟩
 nd:G.gs.Nodup
 gN:G.rg.length=T.m
 rows:∃xs,Rd (rem H G.gs) G.Ar xs∧∀(i:Nat)(p:Nat×Nat),G.rg[i]? = some p→xs[i]? = some (.slice (some ⟨p.1,0,none⟩) (L.w+1) p.2)
 row:∀(i:Nat)(p:Nat×Nat),G.rg[i]? = some p→kW (rem H G.gs) H p.1 (aH (T.A i) (L.w+1))
 basis:(T.m=0∧G.bb = []∧G.bv = .slice none 0 0)∨∃gb cb sz,G.bb = [gb]∧G.bv = .slice (some ⟨gb,0,none⟩) T.m cb∧H gb=some ⟨ee T.B T.m,sz,3,true⟩
 plus:aR uo 1 (rem H G.gs) G.pv L.plus
 minus:aR uk 1 (rem H G.gs) G.mv L.minus
 j8:aR uo 1 (rem H G.gs) G.uv L.j8
 jQ:aR bE 3 (rem H G.gs) G.sv L.jQ
 cb:∀q,q∈G.cb→H q≠none
def iE(H:Heap)(G:TG)(L:TL)(T:ao):Prop:=∃gc cc,G.cb = [gc]∧G.cv = .slice (some ⟨gc,0,none⟩) (L.w+1) cc∧kW (rem H G.gs) H gc (aH T.c (L.w+1))
section
variable {H H':Heap} {G:TG} {L:TL} {T:ao}
theorem TG.rb(G:TG):G.g∈G.gs:=List.mem_cons_self ..
theorem TG.yc{G:TG}{q:Nat}(h:q∈G.cb):q∈G.gs:=List.mem_cons_of_mem _ (List.mem_append_left _ h)
theorem TG.lZ{G:TG}{q:Nat}(h:q∈G.bb):q∈G.gs:=List.mem_cons_of_mem _ (List.mem_append_right _ (List.mem_append_left _ h))
theorem TG.gm{G:TG}{i:Nat}{p:Nat×Nat}(h:G.rg[i]? = some p):p.1∈G.gs:=List.mem_cons_of_mem _ (List.mem_append_right _ (List.mem_append_right _ (List.mem_map.2 ⟨p,List.mem_of_getElem? h,rfl⟩)))
theorem dz.ne(h:dz H G L T):∀q,q∈G.gs→H q≠none:=fun q hq=>by
 rcases List.mem_cons.1 hq with rfl | hq
 ·rw[h.st];simp
 ·rcases List.mem_append.1 hq with hq | hq
  ·exact h.cb q hq
  ·rcases List.mem_append.1 hq with hq | hq
   ·rcases h.basis with ⟨_,h1,_⟩ | ⟨gb,cb,sz,h1,_,h2⟩
    ·rw[h1]at hq;cases hq
    ·rw[h1,List.mem_singleton]at hq
     rw[hq,h2];simp
   ·obtain⟨p,hp,rfl⟩:=List.mem_map.1 hq
    obtain⟨i,hi⟩:=List.getElem?_of_mem hp
    obtain⟨xs,sz,h1,_⟩:=h.row i p hi
    rw[h1];simp
theorem dz.cell(h:dz H G L T){k:Nat}{v:Value}(hk:(G.cells L.w L.u T.m)[k]? = some v):ar.cell H ((⟨G.g,0,none⟩:Addr).add k)=some v:=by
 simp[ar.cell,iA,h.st,hk]
theorem dz.iF(h:dz H G L T):ar.cell H (⟨G.g,0,none⟩:Addr)=some (.int .i64 (L.w:Int)):=by
 have:=h.cell (k:=0) (v:= .int .i64 (L.w:Int)) rfl
 rwa [iA]at this
theorem TG.z8{G:TG}(h:G.gs.Nodup){q:Nat}(hq:q∈G.cb∨q∈G.bb∨∃(i:Nat)(p:Nat×Nat),G.rg[i]? = some p∧p.1=q):G.g≠q:=by
 have h1:=(List.nodup_cons.1 h).1
 intro e
 subst e
 apply h1
 rcases hq with hq | hq | ⟨i,p,hp,he⟩
 ·exact List.mem_append_left _ hq
 ·exact List.mem_append_right _ (List.mem_append_left _ hq)
 ·exact List.mem_append_right _ (List.mem_append_right _ (List.mem_map.2 ⟨p,List.mem_of_getElem? hp,he⟩))
theorem TG.Aa{G:TG}(h:G.gs.Nodup){q r:Nat}(hq:q∈G.cb)(hr:r∈G.bb∨∃(i:Nat)(p:Nat×Nat),G.rg[i]? = some p∧p.1=r):q≠r:=by
 have h1:=(List.nodup_append.1 (List.nodup_cons.1 h).2).2.2 q hq
 refine h1 r ?_
 rcases hr with hr | ⟨i,p,hp,he⟩
 ·exact List.mem_append_left _ hr
 ·exact List.mem_append_right _ (List.mem_map.2 ⟨p,List.mem_of_getElem? hp,he⟩)
theorem TG.Fa{G:TG}(h:G.gs.Nodup){q:Nat}(hq:q∈G.bb){i:Nat}{p:Nat×Nat}(hp:G.rg[i]? = some p):q≠p.1:=
 (List.nodup_append.1 (List.nodup_append.1 (List.nodup_cons.1 h).2).2.1).2.2 q hq p.1 (List.mem_map.2 ⟨p,List.mem_of_getElem? hp,rfl⟩)
theorem TG.JK{G:TG}(h:G.gs.Nodup){i j:Nat}{p q:Nat×Nat}(hp:G.rg[i]? = some p)(hq:G.rg[j]? = some q)(aY:i≠j):p.1≠q.1:=by
 have h1:=(List.nodup_append.1 (List.nodup_append.1 (List.nodup_cons.1 h).2).2.1).2.1
 intro e
 have hi:(G.rg.map (·.1))[i]? = some p.1:=by rw[List.getElem?_map,hp];rfl
 have hj:(G.rg.map (·.1))[j]? = some p.1:=by rw[List.getElem?_map,hq,e];rfl
 obtain⟨hi1,sk⟩:=List.getElem?_eq_some_iff.1 hi
 obtain⟨tR,vx⟩:=List.getElem?_eq_some_iff.1 hj
 exact aY ((List.getElem_inj h1).1 (sk.trans vx.symm))
theorem dz.kept(h:dz H G L T)(k:Kept G.gs H H'):dz H' G L T where
 n:=h.n
 uw:=h.uw
 st:=by rw[k.same _ G.rb];exact h.st
 nd:=h.nd
 gN:=h.gN
 rows:=by obtain⟨xs,h1,h2⟩:=h.rows;exact⟨xs,h1.le k.le,h2⟩
 row:=fun i p hp=>(h.row i p hp).le k.le (k.same _ (TG.gm hp))
 basis:=by
  rcases h.basis with h1 | ⟨gb,cb,sz,h1,h2,h3⟩
  ·exact .inl h1
  ·exact .inr ⟨gb,cb,sz,h1,h2,by rw[k.same _ (TG.lZ (by rw[h1];exact List.mem_singleton.2 rfl))];exact h3⟩
 plus:=h.plus.le lY k.le
 minus:=h.minus.le uq k.le
 j8:=h.j8.le lY k.le
 jQ:=h.jQ.le fJ k.le
 cb:=fun q hq=>by rw[k.same _ (TG.yc hq)];exact h.cb q hq
theorem iE.kept(h:iE H G L T)(k:Kept G.gs H H'):iE H' G L T:=by
 obtain⟨gc,cc,h1,h2,h3⟩:=h
 exact⟨gc,cc,h1,h2,h3.le k.le (k.same _ (TG.yc (by rw[h1];exact List.mem_singleton.2 rfl)))⟩
theorem dz.congr{T':ao}(h:dz H G L T)(hm:T'.m=T.m)(hn:T'.n=T.n)(hA:∀i,i<T.m→∀j,j≤T.n→T'.A i j=T.A i j)(hB:∀i,i<T.m→T'.B i=T.B i):dz H G L T' where
 n:=hn.trans h.n
 uw:=h.uw
 st:=by rw[hm];exact h.st
 nd:=h.nd
 gN:=h.gN.trans hm.symm
 rows:=h.rows
 row:=fun i p hp=>by
  have hi:i<T.m:=by rw[←h.gN];exact(List.getElem?_eq_some_iff.1 hp).1
  rw[j6 (g:=T.A i) (fun j hj=>hA i hi j (by rw[h.n];omega))];exact h.row i p hp
 basis:=by
  rw[hm,Vb hB];exact h.basis
 plus:=h.plus
 minus:=h.minus
 j8:=h.j8
 jQ:=h.jQ
 cb:=h.cb
theorem iE.congr{T':ao}(h:iE H G L T)(hc:∀j,j≤L.w→T'.c j=T.c j):iE H G L T':=by
 obtain⟨gc,cc,h1,h2,h3⟩:=h
 exact⟨gc,cc,h1,h2,by rw[j6 (g:=T.c) (fun j hj=>hc j (by omega))];exact h3⟩
def _root_.Lp.ao.setRow(T:ao)(i:Nat)(f:Nat→Rat):ao:={T with A:=fun k=>if k=i then f else T.A k}
theorem dz.setRow(h:dz H G L T){i:Nat}{p:Nat×Nat}(hp:G.rg[i]? = some p)(k:fE G.gs p.1 H H'){f:Nat→Rat}(hb:kW (rem H' G.gs) H' p.1 (aH f (L.w+1))):dz H' G L (T.setRow i f) where
 n:=h.n
 uw:=h.uw
 st:=by rw[k.same _ G.rb (TG.z8 h.nd (.inr (.inr ⟨i,p,hp,rfl⟩)))];exact h.st
 nd:=h.nd
 gN:=h.gN
 rows:=by obtain⟨xs,h1,h2⟩:=h.rows;exact⟨xs,h1.le k.le,h2⟩
 row:=fun j q hq=>by
  by_cases e:j=i
  ·subst e
   rw[hp]at hq
   cases hq
   simp only[ao.setRow,if_true]
   exact hb
  ·simp only[ao.setRow,if_neg e]
   exact(h.row j q hq).le k.le (k.same _ (TG.gm hq) (TG.JK h.nd hq hp e))
 basis:=by
  rcases h.basis with h1 | ⟨gb,cb,sz,h1,h2,h3⟩
  ·exact .inl h1
  ·have hm:gb∈G.bb:=by rw[h1];exact List.mem_singleton.2 rfl
   exact .inr ⟨gb,cb,sz,h1,h2,by rw[k.same _ (TG.lZ hm) (TG.Fa h.nd hm hp)];exact h3⟩
 plus:=h.plus.le lY k.le
 minus:=h.minus.le uq k.le
 j8:=h.j8.le lY k.le
 jQ:=h.jQ.le fJ k.le
 cb:=fun q hq=>by rw[k.same _ (TG.yc hq) (TG.Aa h.nd hq (.inr ⟨i,p,hp,rfl⟩))];exact h.cb q hq
theorem iE.setRow(h:iE H G L T)(nd:G.gs.Nodup){i:Nat}{p:Nat×Nat}(hp:G.rg[i]? = some p)(k:fE G.gs p.1 H H')(f:Nat→Rat):iE H' G L (T.setRow i f):=by
 obtain⟨gc,cc,h1,h2,h3⟩:=h
 have hm:gc∈G.cb:=by rw[h1];exact List.mem_singleton.2 rfl
 exact⟨gc,cc,h1,h2,h3.le k.le (k.same _ (TG.yc hm) (TG.Aa nd hm (.inr ⟨i,p,hp,rfl⟩)))⟩
theorem dz.aep(h:dz H G L T){gc:Nat}(hc:G.cb = [gc])(k:fE G.gs gc H H'){f:Nat→Rat}(hb:kW (rem H' G.gs) H' gc (aH f (L.w+1))):dz H' G L {T with c:=f}:=by
 have hm:gc∈G.cb:=by rw[hc];exact List.mem_singleton.2 rfl
 exact
 {n:=h.n
  uw:=h.uw
  st:=by rw[k.same _ G.rb (TG.z8 h.nd (.inl hm))];exact h.st
  nd:=h.nd
  gN:=h.gN
  rows:=by obtain⟨xs,h1,h2⟩:=h.rows;exact⟨xs,h1.le k.le,h2⟩
  row:=fun j q hq=>(h.row j q hq).le k.le (k.same _ (TG.gm hq) (fun e=>TG.Aa h.nd hm (.inr ⟨j,q,hq,rfl⟩) e.symm))
  basis:=by
   rcases h.basis with h1 | ⟨gb,cb,sz,h1,h2,h3⟩
   ·exact .inl h1
   ·have bB:gb∈G.bb:=by rw[h1];exact List.mem_singleton.2 rfl
    exact .inr ⟨gb,cb,sz,h1,h2,by rw[k.same _ (TG.lZ bB) (fun e=>TG.Aa h.nd hm (.inl bB) e.symm)];exact h3⟩
  plus:=h.plus.le lY k.le
  minus:=h.minus.le uq k.le
  j8:=h.j8.le lY k.le
  jQ:=h.jQ.le fJ k.le
  cb:=fun q hq=>by
   rw[hc,List.mem_singleton]at hq
   obtain⟨xs,sz,h1,_⟩:=hb
   rw[hq,h1];simp}
theorem dz.CH(h:dz H G L T){gb cb sz:Nat}(hb:G.bb = [gb])(hv:G.bv = .slice (some ⟨gb,0,none⟩) T.m cb){r s:Nat}{e:Ent}(he:e=⟨ee (fun i=>if i=r then s else T.B i) T.m,sz,3,true⟩):dz (ins H gb e) G L {T with B:=fun i=>if i=r then s else T.B i}:=by
 have hm:gb∈G.bb:=by rw[hb];exact List.mem_singleton.2 rfl
 have k:fE G.gs gb H (ins H gb e):=((Kept.refl _ _).il gb).ins (TG.lZ hm) e
 exact
 {n:=h.n
  uw:=h.uw
  st:=by rw[k.same _ G.rb (TG.z8 h.nd (.inr (.inl hm)))];exact h.st
  nd:=h.nd
  gN:=h.gN
  rows:=by obtain⟨xs,h1,h2⟩:=h.rows;exact⟨xs,h1.le k.le,h2⟩
  row:=fun j q hq=>(h.row j q hq).le k.le (k.same _ (TG.gm hq) (fun e=>TG.Fa h.nd hm hq e.symm))
  basis:= .inr ⟨gb,cb,sz,hb,hv,by rw[bo,he]⟩
  plus:=h.plus.le lY k.le
  minus:=h.minus.le uq k.le
  j8:=h.j8.le lY k.le
  jQ:=h.jQ.le fJ k.le
  cb:=fun q hq=>by rw[k.same _ (TG.yc hq) (TG.Aa h.nd hq (.inl hm))];exact h.cb q hq}
theorem iE.CH(h:iE H G L T)(nd:G.gs.Nodup){gb:Nat}(hb:G.bb = [gb])(e:Ent)(B:Nat→Nat):iE (ins H gb e) G L {T with B:=B}:=by
 have hm:gb∈G.bb:=by rw[hb];exact List.mem_singleton.2 rfl
 have k:fE G.gs gb H (ins H gb e):=((Kept.refl _ _).il gb).ins (TG.lZ hm) e
 obtain⟨gc,cc,h1,h2,h3⟩:=h
 have Vc:gc∈G.cb:=by rw[h1];exact List.mem_singleton.2 rfl
 exact⟨gc,cc,h1,h2,h3.le k.le (k.same _ (TG.yc Vc) (TG.Aa nd Vc (.inl hm)))⟩
structure Sz(N:Nat)(T:ao):Prop where
 A:∀i,i<T.m→∀j,j≤T.n→aG (T.A i j)≤N
 c:∀j,j≤T.n→aG (T.c j)≤N
end
end Go.ar
namespace Go.ar
open Go.Proofs Num Lp
section
variable {H:Heap} {G:TG} {L:TL} {T:ao} {N:Nat} {fs:List Value} {f:Rat}
theorem aeq(h:dz H G L T){i r:Nat}{p q:Nat×Nat}(hp:G.rg[i]? = some p)(hq:G.rg[r]? = some q)(aY:i≠r)(hf:bE (rem H G.gs) fs f)(hN:(N:Int)≤549755813888)(hw:(L.w:Int)≤1000000)(sf:aG f≤N)(si:∀j,j≤L.w→aG (T.A i j)≤N)(sr:∀j,j≤L.w→aG (T.A r j)≤N):
  Fn Tryz.prog 125 #[.pointer (some ⟨G.g,0,none⟩),.slice (some ⟨p.1,0,none⟩) (L.w+1) p.2,.int .i64 (r:Int),.agg fs.toArray] H (fun _ H'=>dz H' G L (T.setRow i (fun j=>T.A i j-f*T.A r j))∧fE G.gs p.1 H H'):=by
 obtain⟨ox,lP,jN⟩:=h.rows
 refine(U9 (N:=N) h.ne G.rb (TG.gm hp) (TG.gm hq) (TG.JK h.nd hp hq aY) (TG.z8 h.nd (.inr (.inr ⟨i,p,hp,rfl⟩))) h.st rfl lP ?_ (jN r q hq) (h.row r q hq) (h.row i p hp) hf hN (by omega) sf (fun j hj=>sr j (by omega)) (fun j hj=>si j (by omega))).mono fun v H' hh=>⟨h.setRow hp hh.1 hh.2,hh.1⟩
 rw[←h.gN];exact(List.getElem?_eq_some_iff.1 hq).1
theorem Vd(h:dz H G L T)(hc:iE H G L T){r:Nat}{q:Nat×Nat}(hq:G.rg[r]? = some q)(hf:bE (rem H G.gs) fs f)(hN:(N:Int)≤549755813888)(hw:(L.w:Int)≤1000000)(sf:aG f≤N)(si:∀j,j≤L.w→aG (T.c j)≤N)(sr:∀j,j≤L.w→aG (T.A r j)≤N):
  Fn Tryz.prog 125 #[.pointer (some ⟨G.g,0,none⟩),G.cv,.int .i64 (r:Int),.agg fs.toArray] H (fun _ H'=>dz H' G L {T with c:=fun j=>T.c j-f*T.A r j}∧iE H' G L {T with c:=fun j=>T.c j-f*T.A r j}∧Heap.le (rem H G.gs) (rem H' G.gs)):=by
 obtain⟨ox,lP,jN⟩:=h.rows
 obtain⟨gc,cc,h1,h2,h3⟩:=hc
 have hm:gc∈G.cb:=by rw[h1];exact List.mem_singleton.2 rfl
 rw[h2]
 refine(U9 (N:=N) h.ne G.rb (TG.yc hm) (TG.gm hq) (TG.Aa h.nd hm (.inr ⟨r,q,hq,rfl⟩)) (TG.z8 h.nd (.inl hm)) h.st rfl lP ?_ (jN r q hq) (h.row r q hq) h3 hf hN (by omega) sf (fun j hj=>sr j (by omega)) (fun j hj=>si j (by omega))).mono fun v H' hh=>⟨h.aep h1 hh.1 hh.2,⟨gc,cc,h1,h2,hh.2⟩,hh.1.le⟩
 rw[←h.gN];exact(List.getElem?_eq_some_iff.1 hq).1
end
theorem Og{B:Nat→Nat}{m r s:Nat}:(ee B m).set r (.int .i64 (s:Int))=ee (fun i=>if i=r then s else B i) m:=by
 apply List.ext_getElem?
 intro i
 by_cases hi:i<m
 ·by_cases e:i=r
  ·subst e
   rw[List.getElem?_set_self (by rw[z7];exact hi),gj hi,if_pos rfl]
  ·rw[List.getElem?_set_ne (fun e'=>e e'.symm),gj hi,gj hi,if_neg e]
 ·rw[List.getElem?_eq_none (by rw[List.length_set,z7];omega),List.getElem?_eq_none (by rw[z7];omega)]
def kY(T:ao)(r s k:Nat):ao:={T with A:=fun i=>if i=r then(fun j=>T.A r j/T.A r s)else if i<k then(fun j=>T.A i j-T.A i s*(T.A r j/T.A r s))else T.A i}
theorem aer{T:ao}{r s k:Nat}(hk:k≠r)(i j:Nat):(kY T r s (k+1)).A i j=((kY T r s k).setRow k (fun j=>(kY T r s k).A k j-T.A k s*(kY T r s k).A r j)).A i j:=by
 unfold ao.setRow kY
 simp only
 by_cases e1:i=k
 ·subst e1
  rw[if_neg hk,if_pos (by omega),if_pos rfl,if_neg hk,if_neg (by omega),if_pos trivial]
 ·rw[if_neg e1]
  by_cases e2:i=r
  ·rw[if_pos e2,if_pos e2]
  ·rw[if_neg e2,if_neg e2]
   by_cases e3:i<k
   ·rw[if_pos (by omega),if_pos e3]
   ·rw[if_neg (by omega),if_neg e3]
theorem aes{T:ao}{r s k:Nat}(hk:k=r)(i j:Nat):(kY T r s (k+1)).A i j=(kY T r s k).A i j:=by
 unfold kY
 simp only
 by_cases e2:i=r
 ·rw[if_pos e2,if_pos e2]
 ·rw[if_neg e2,if_neg e2]
  by_cases e3:i<k
  ·rw[if_pos (by omega),if_pos e3]
  ·rw[if_neg (by omega),if_neg e3]
theorem dz.get{H:Heap}{G:TG}{L:TL}{T:ao}(h:dz H G L T){i:Nat}(hi:i<T.m):∃p,G.rg[i]? = some p:=⟨_,List.getElem?_eq_getElem (by rw[h.gN];exact hi)⟩
theorem Ve{H:Heap}{G:TG}{L:TL}{T:ao}{N r s:Nat}(h:dz H G L T)(hc:iE H G L T)(hr:r<T.m)(hs:s<L.w)(hp:T.A r s≠0)(hz:Sz N T)(Oh:Sz N (T.pivot r s))(hN:(N:Int)≤549755813888)(hw:(L.w:Int)≤1000000)(hm:(T.m:Int)≤1000000):
 Fn Tryz.prog 127 #[.pointer (some ⟨G.g,0,none⟩),.int .i64 (r:Int),.int .i64 (s:Int)] H (fun _ H'=>dz H' G L (T.pivot r s)∧iE H' G L (T.pivot r s)∧Heap.le (rem H G.gs) (rem H' G.gs)):=by
 obtain⟨pr,cN⟩:=h.get hr
 obtain⟨ox,lP,jN⟩:=h.rows
 have lX:s≤T.n:=by rw[h.n];omega
 have Vf:∀j,j≤L.w→aG (T.A r j/T.A r s)≤N:=fun j hj=>by
  have:=Oh.A r hr j (by show j≤T.n;rw[h.n];exact hj)
  simpa [ao.pivot]using this
 have JL:∀i,i<T.m→∀j,j≤L.w→aG (T.A i j)≤N:=fun i hi j hj=>hz.A i hi j (by rw[h.n];exact hj)
 obtain⟨xp,np,dp,bp,fS,hnp,Ae⟩:=(h.row r pr cN).rd (di (show s<L.w+1 by omega));refine aZ (args:=[_,_,_]) Tryz.func127 rfl rfl Tryz.ntmps127 rfl rfl fun w0=> ?_;refine ag [0,1,2] rfl ?_;refine ab ?_;refine vr 2 ?_;refine aS ae rfl rfl rfl ?_;refine aN ae rfl rfl rfl (h.cell rfl) ?_;refine vr 1 ?_;refine aM ae rfl rfl rfl rfl rfl (lP.le (bG _ _)) (by rw[Int.toNat_natCast];exact jN r pr cN) (by omega) (by omega) fun _=> ?_;refine vr 1 ?_;refine aa [0,1,2,6] ?_;refine ab ?_;refine vr 2 ?_;refine bR (vs:=[.int .i64 np,.int .i64 dp,.pointer bp]) ae rfl rfl rfl rfl fS rfl (by decide) (by rw[Int.toNat_natCast];exact Ae) (by omega) (by omega) fun _=> ?_;refine bt dM rfl ?_;obtain⟨ti,aj,ak⟩:=bV;refine aJ (.inl ⟨rfl,rfl⟩) rfl rfl rfl aj ak rfl rfl rfl ?_;refine aa [0,1,2,6,7] ?_;refine al ?_;refine ab ?_;refine vr 3 ?_;refine aa [0,1,2,6,7,23,24,25] ?_;refine aC ?_;refine fZ (fun(k:Nat)=>L.w+1-k) (fun(k:Nat)=>put (put (put (put (put (put (put (put (emp) 0 (.val (.pointer (some ⟨G.g,0,none⟩)))) 1 (.val (.int .i64 (r:Int)))) 2 (.val (.int .i64 (s:Int)))) 6 (.val (.slice (some ⟨pr.1,0,none⟩) (L.w+1) pr.2))) 7 (.box [.int .i64 np,.int .i64 dp,.pointer bp])) 23 (.val (.slice (some ⟨pr.1,0,none⟩) (L.w+1) pr.2))) 24 (.val (.int .i64 ((L.w+1:Nat):Int)))) 25 (.val (.int .i64 (k:Int)))) (fun(k:Nat) H'=>fE G.gs pr.1 H H'∧kW (rem H' G.gs) H' pr.1 (aH (jD (fun j=>T.A r j/T.A r s) (T.A r) k) (L.w+1))∧k≤L.w+1) 0 (⟨(Kept.refl _ _).il _,by rw[U6];exact h.row r pr cN,Nat.zero_le _⟩) an ?_
 rintro k H2 ⟨eS,cS,fA⟩;have aet:=hnp.le eS.le
 have vO:∀q,q∈G.gs→H2 q≠none:=fun q hq=>by
  by_cases e:q=pr.1
  ·
   obtain⟨xs,sz,h,_⟩:=cS;rw[e,h];simp
  ·rw[eS.same q hq e];exact h.ne q hq
 refine ab ?_;refine vr 1 ?_;refine aa [0,1,2,6,7,23,24,25,26] ?_;refine al ?_;refine aB rfl (fun hb=> ?_) (fun hb=> ?_)
 ·
  have fR:k<L.w+1:=by simp at hb;omega
  obtain⟨xl,nl,dl,bl,ks,yb,cB⟩:=cS.rd (di fR);rw[show jD (fun j=>T.A r j/T.A r s) (T.A r) k k=T.A r k by simp[jD]]at yb;have Of:=JL r hr k (by omega);have Va:=JL r hr s (by omega);refine au ?_;refine ag [0,1,2,6,7,23,24,25] rfl ?_;refine al ?_;refine aC ?_;refine ab ?_;refine vr 1 ?_;refine bR (vs:=[.int .i64 nl,.int .i64 dl,.pointer bl]) ae rfl rfl rfl rfl ks rfl (by decide) cB (by omega) (by omega) fun _=> ?_;refine bt dM rfl ?_;refine vr 1 ?_;obtain⟨ti,aj,ak⟩:=bV;refine aJ (.inl ⟨rfl,rfl⟩) rfl rfl rfl aj ak rfl rfl rfl ?_;refine aa [0,1,2,6,7,8,9,23,24,25] ?_;refine ab ?_;refine vr 1 ?_;refine aw rfl rfl (Fn.kX vO (iT yb (by omega))) ?_;rintro v3 H3 ⟨de,dC,rfl⟩;have JJ:=de.ne vO;refine vr 1 ?_;refine aa [0,1,2,6,7,8,9,23,24,25,32] ?_;refine aB rfl (fun hb=> ?_) (fun hb=> ?_)
  ·
   skip
   refine av rfl ?_;refine vr 4 ?_;refine aw rfl rfl (Fn.iU JJ (UX (N:=N) (yb.le de.le) (aet.le de.le) Of Va (by omega) hp)) ?_;rintro v4 H4 ⟨fu,cE,n4,d4,b4,rfl,ct⟩;obtain⟨E8,sz6,nh,uj⟩:=cS.le (de.le.trans fu.le) ((fu.same _ (TG.gm cN)).trans (de.same _ (TG.gm cN)));have E9:=uj.len;rw[aW]at E9;obtain⟨ti,aj,ak⟩:=bV;refine cM (.inl rfl) ae rfl rfl rfl (by omega) (by omega) (nh) rfl (by show 0+(L.w+1)*3≤E8.length;omega) aj ak (fun _=>rfl) rfl rfl rfl fun _=> ?_;refine aq ?_;refine ag [0,1,2,6,7,23,24,25] rfl ?_;refine av rfl ?_;refine aD rfl rfl ⟨by omega,by omega⟩ ?_;refine vr 1 ?_;refine aq ?_;exact⟨k+1,by omega,an,((eS.trans (de.il _)).trans (fu.il _)).ins (TG.gm cN) _,by rw[cC _ (TG.gm cN)];exact kW.set uj fR ct (by rw[bo,Nat.zero_add];rfl),by omega⟩
  ·
   have iV:T.A r k=0:=q6 (by simpa using hb);refine au ?_;refine ag [0,1,2,6,7,23,24,25] rfl ?_;refine av rfl ?_;refine aD rfl rfl ⟨by omega,by omega⟩ ?_;refine vr 1 ?_;refine aq ?_;exact⟨k+1,by omega,an,eS.trans (de.il _),by rw[←U5 (show (fun j=>T.A r j/T.A r s) k=T.A r k by show T.A r k/T.A r s=T.A r k;rw[iV,Rat.div_def,Rat.zero_mul])];exact cS.le de.le (de.same _ (TG.gm cN)),by omega⟩
 ·
  have hb:L.w+1≤k:=by simp at hb;omega
  obtain rfl:k=L.w+1:=by omega
  rw[U7]at cS;have gi:=eS.le;have sH:=(hc.setRow h.nd cN eS (fun j=>T.A r j/T.A r s)).congr (T':=kY T r s 0) (fun j _=>rfl);have h3:=(h.setRow cN eS cS).congr (T':=kY T r s 0) rfl rfl (fun i hi j hj=>by simp only[kY,ao.setRow];split <;> rfl) (fun i hi=>rfl);refine aU ?_;refine ag [0,1,2] rfl ?_;refine al ?_;refine ab ?_;refine vr 2 ?_;refine aS ae rfl rfl rfl ?_;refine aN ae rfl rfl rfl (h3.cell rfl) ?_;refine vr 2 ?_;refine aa [0,1,2,43,44,45] ?_;refine aC ?_;refine fZ (fun(k:Nat)=>T.m-k) (fun(k:Nat)=>put (put (put (put (put (put (emp) 0 (.val (.pointer (some ⟨G.g,0,none⟩)))) 1 (.val (.int .i64 (r:Int)))) 2 (.val (.int .i64 (s:Int)))) 43 (.val (.slice G.Ar T.m G.cr))) 44 (.val (.int .i64 (T.m:Int)))) 45 (.val (.int .i64 (k:Int)))) (fun(k:Nat) H'=>dz H' G L (kY T r s k)∧iE H' G L (kY T r s k)∧Heap.le (rem H G.gs) (rem H' G.gs)∧k≤T.m) 0 (⟨h3,sH,gi,Nat.zero_le _⟩) an ?_;rintro k H4 ⟨h4,nV,gK,fu⟩;refine ab ?_;refine vr 1 ?_;refine aa [0,1,2,43,44,45,46] ?_;refine al ?_;refine aB rfl (fun hb=> ?_) (fun hb=> ?_)
  ·
   have kZ:k<T.m:=by simpa using hb
   obtain⟨pk,qc⟩:=h.get kZ;obtain⟨xs4,Ag,mB⟩:=h4.rows;refine au ?_;refine ag [0,1,2,43,44,45] rfl ?_;refine al ?_;refine aC ?_;refine ab ?_;refine vr 1 ?_;refine aM ae rfl rfl rfl rfl rfl (Ag.le (bG _ _)) (by rw[Int.toNat_natCast];exact mB k pk qc) (by omega) (by omega) fun _=> ?_;refine vr 2 ?_;refine aa [0,1,2,10,11,43,44,45] ?_;refine ab ?_;refine vr 3 ?_;refine aa [0,1,2,11,43,44,45,52] ?_;refine aB rfl (fun hb=> ?_) (fun hb=> ?_)
   ·
    have sD:k≠r:=by simp at hb;omega
    obtain⟨xk,nk,dk,bk,JM,Fb,JN⟩:=(h4.row k pk qc).rd (di (show s<L.w+1 by omega));rw[show (kY T r s k).A k s=T.A k s by simp[kY,sD]]at Fb;refine av rfl ?_;refine vr 5 ?_;refine bR (vs:=[.int .i64 nk,.int .i64 dk,.pointer bk]) ae rfl rfl rfl rfl JM rfl (by decide) (by rw[Int.toNat_natCast];exact JN) (by omega) (by omega) fun _=> ?_;refine aw rfl rfl (aeq (N:=N) h4 qc cN sD Fb hN hw (JL k kZ s (by omega)) (fun j hj=>by simpa [kY,sD]using JL k kZ j hj) (fun j hj=>by simpa [kY]using Vf j hj)) ?_;rintro v5 H5 ⟨h5,vP⟩;refine aq ?_;refine ag [0,1,2,43,44,45] rfl ?_;refine av rfl ?_;refine aD rfl rfl ⟨by omega,by omega⟩ ?_;refine vr 1 ?_;refine aq ?_;exact⟨k+1,by omega,an,h5.congr rfl rfl (fun i hi j hj=>aer sD i j) (fun i hi=>rfl),(nV.setRow h4.nd qc vP (fun _=>0)).congr (fun j _=>rfl),gK.trans vP.le,by omega⟩
   ·
    have sD:k=r:=by simp at hb;omega
    refine au ?_;refine ag [0,1,2,43,44,45] rfl ?_;refine av rfl ?_;refine aD rfl rfl ⟨by omega,by omega⟩ ?_;refine vr 1 ?_;refine aq ?_;exact⟨k+1,by omega,an,h4.congr rfl rfl (fun i hi j hj=>aes sD i j) (fun i hi=>rfl),nV.congr (fun j _=>rfl),gK,by omega⟩
  ·
   have hb:T.m≤k:=by simpa using hb
   obtain rfl:k=T.m:=by omega
   obtain⟨gc,cc,JO,a6,Ah⟩:=id nV;obtain⟨xc,nc,dc,bc,l0,wX,sU⟩:=Ah.rd (di (show s<L.w+1 by omega))
   have kK:cell H4 ((⟨G.g,0,none⟩:Addr).add 7)=some (.slice (some ⟨gc,0,none⟩) (L.w+1) cc):=by rw[←a6];exact h4.cell rfl
   refine aU ?_;refine ag [0,1,2] rfl ?_;refine bJ .tD [0,1,2,3,4,5,6,7,8,9,10,11,12,13] follows (by kernel_rfl) ?_;refine vr 3 ?_;refine aS ae rfl rfl rfl ?_;refine aN ae rfl rfl rfl (kK) ?_;refine vr 3 ?_;refine aS ae rfl rfl rfl ?_;refine aN ae rfl rfl rfl (kK) ?_;refine vr 1 ?_;refine bR (vs:=[.int .i64 nc,.int .i64 dc,.pointer bc]) ae rfl rfl rfl rfl l0 rfl (by decide) (by rw[Int.toNat_natCast];exact sU) (by omega) (by omega) fun _=> ?_;refine Ud rfl rfl (by rw[←a6];exact Vd (N:=N) h4 nV cN wX hN hw (hz.c s lX) (fun j hj=>hz.c j (by rw[h.n];exact hj)) (fun j hj=>by simpa [kY]using Vf j hj)) ?_;rintro v6 H6 ⟨h6,qd,mI⟩
   obtain⟨gb,cb,sz,kU,cY,bD⟩:∃gb cb sz,G.bb = [gb]∧G.bv = .slice (some ⟨gb,0,none⟩) T.m cb∧H6 gb=some ⟨ee T.B T.m,sz,3,true⟩:=by
    rcases h6.basis with h7 | h7
    ·
     have h8:T.m=0:=h7.1
     omega
    ·exact h7
   refine aa [0,1,2] ?_;refine av rfl ?_;refine vr 2 ?_;refine aS ae rfl rfl rfl ?_;refine aN ae rfl rfl rfl (show cell H6 _=some (.slice (some ⟨gb,0,none⟩) T.m cb)from by rw[←cY];exact h6.cell rfl) ?_;refine vr 2 ?_;obtain⟨ti,aj,ak⟩:=qP;refine cM (.inl rfl) ae rfl rfl rfl (by omega) (by omega) (bD) rfl (by show 0+T.m*1≤(ee T.B T.m).length;rw[z7];omega) aj ak (fun _=>rfl) rfl rfl rfl fun _=> ?_;refine aq ?_;refine⟨.inl rfl,_,.nil,?_⟩
   have he:({(⟨ee T.B T.m,sz,3,true⟩:Ent)with xs:=aI (ee T.B T.m) (0+((r:Int)).toNat*1) [.int .i64 (s:Int)]}:Ent)=⟨ee (fun i=>if i=r then s else T.B i) T.m,sz,3,true⟩:=by
    rw[Int.toNat_natCast,Nat.mul_one,Nat.zero_add,←Og];rfl
   refine⟨(h6.CH (r:=r) (s:=s) (sz:=sz) kU cY he).congr (T':=T.pivot r s) rfl rfl (fun i hi j hj=> ?_) (fun i hi=>rfl),(qd.CH h6.nd kU _ (fun _=>0)).congr (T':=T.pivot r s) (fun j hj=> ?_),?_⟩
   ·
    have fH:i<T.m:=hi
    simp only[ao.pivot,kY]
    by_cases e:i=r
    ·simp[e]
    ·simp[e,fH]
   ·simp[ao.pivot,kY]
   ·
    have JP:gb∈G.gs:=TG.lZ (by rw[kU];exact List.mem_singleton.2 rfl);rw[cC _ JP];exact gK.trans mI
end Go.ar
