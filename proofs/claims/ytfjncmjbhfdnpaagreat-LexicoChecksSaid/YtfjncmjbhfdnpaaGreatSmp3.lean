/- Walks over package simplex, simplex.go, part 3: Feasible, signed. -/
import Derived.Test.YtfjncmjbhfdnpaaGreatA10
import Derived.Test.YtfjncmjbhfdnpaaGreatSmp2
set_option linter.unusedVariables false
namespace Go.ay
open Go.Proofs Num Lp
theorem OI{H:Heap}{v:Value}{p:Prg}{N:Nat}(hp:cN N H v p)(aP:p.Ok):Fn Tryz.prog 47 #[v] H (p8 H (.bool true)):=
 (Fu hp).mono fun v H' ⟨h1,b,h2,h3⟩=>⟨h1,by rw[h2,h3.2 aP]⟩
theorem V1{H:Heap}{v:Value}{p:Prg}{N:Nat}(hp:cN N H v p)(aP:¬p.Ok):Fn Tryz.prog 47 #[v] H (p8 H (.bool false)):=
 (Fu hp).mono fun v H' ⟨h1,b,h2,h3⟩=>⟨h1,by
  cases b with
  | false=>exact h2
  | true=>exact absurd (h3.1 rfl) aP⟩
theorem Oj{H:Heap}{v xv:Value}{p:Prg}{x:List Rat}{N:Nat}(hp:cN N H v p)(hx:aC (aS N) 3 H xv x)(oQ:(x.length:Int)≤1099511627776)(hN:N≤1299999998):
 Fn Tryz.prog 88 #[v,xv] H (fun v H'=>Heap.le H H'∧∃b,v = .bool b∧(b=true↔qW p x)):=by
 obtain⟨fv,fG,rfl,cB,cF⟩:=id hp
 obtain⟨Af,cf,xf,rfl,ea,eH⟩:=cB.one
 obtain⟨Ar,cr,xr,rfl,cL,du⟩:=cF.row
 obtain⟨Ax,cx,xx,rfl,mR,mS⟩:=hx.rat;refine aU (args:=[_,_]) Tryz.func88 rfl rfl Tryz.ntmps88 rfl rfl fun w0=> ?_;refine ag [0,1] rfl ?_;refine ae ?_;refine bF rfl rfl ?_;refine vr 1 ?_;refine ab [1,2] ?_
 by_cases aP:p.Ok
 ·
  skip
  by_cases cj:x.length=p.free.length
  ·
   skip
   refine bL .bn [0,1,2,3,4,5,6,7,8,9,10,11,12,13,14,15,16,17] follows (by kernel_rfl) ?_;refine vr 1 ?_;refine aH rfl rfl (OI hp aP) (fun _ _ h=>by first | exact h.le | exact h.1) ?_;rintro v1 H1 ⟨e1,rfl⟩;rw[e1];refine vr 6 ?_;refine ax true rfl rfl (dz (by omega)) ?_;refine vr 4 ?_;refine aH rfl rfl (sE hx (by omega) oQ) (fun _ _ h=>by first | exact h.le | exact h.1) ?_;rintro v2 H2 ⟨aM,eL⟩;refine aH rfl rfl (oy) (fun _ _ h=>by first | exact h.le | exact h.1) ?_;rintro v3 H3 ⟨e3,rfl⟩;rw[e3];refine aH rfl rfl (OG (t:=1) (M:=N+2) (hp.le aM) aP eL cj (ow H2 (n:=1) (by decide) (by decide)) (by decide) hx.ec (by omega) (by omega)) (fun _ _ h=>by first | exact h.le | exact h.1) ?_;rintro v4 H4 ⟨bE,b4,rfl,oH⟩;refine vr 2 ?_;refine ab [4] ?_;refine aq ⟨.inr rfl,_,.tmp rfl (.nil),?_⟩;exact⟨aM.trans bE,b4,rfl,⟨(fun h=>⟨aP,cj,oH.1 h⟩),fun h=>oH.2 h.meets⟩⟩
  ·
   skip
   refine bL .bn [0,1,2,3,4,5,6,7,8,9,10,11,12,13,14,15,16,17] follows (by kernel_rfl) ?_;refine vr 1 ?_;refine aH rfl rfl (OI hp aP) (fun _ _ h=>by first | exact h.le | exact h.1) ?_;rintro v1 H1 ⟨e1,rfl⟩;rw[e1];refine vr 6 ?_;refine ax false rfl rfl (eN (by omega)) ?_;refine vr 9 ?_;refine ab [4] ?_;refine aq ⟨.inr rfl,_,.tmp rfl (.nil),?_⟩;exact⟨.refl _,false,rfl,⟨(fun h=>by cases h),(fun h=>absurd h.len cj)⟩⟩
 ·
  skip
  refine bL .bn [0,1,2,3,4,5,6,7,8,9,10,11,12,13,14,15,16,17] follows (by kernel_rfl) ?_;refine vr 1 ?_;refine aH rfl rfl (V1 hp aP) (fun _ _ h=>by first | exact h.le | exact h.1) ?_;rintro v1 H1 ⟨e1,rfl⟩;rw[e1];refine vr 16 ?_;refine ab [4] ?_;refine aq ⟨.inr rfl,_,.tmp rfl (.nil),?_⟩;exact⟨.refl _,false,rfl,⟨(fun h=>by cases h),(fun h=>absurd h.ok aP)⟩⟩
theorem V2{H:Heap}{v yv:Value}{p:Prg}{y:List Rat}{N:Nat}(hp:cN N H v p)(aP:p.Ok)(hy:aC (aS N) 3 H yv y)(hN:N≤1299999998):
 Fn Tryz.prog 162 #[v,yv] H (fun v H'=>Heap.le H H'∧∃b,v = .bool b∧(b=true↔y.length=p.rows.length∧p.lp.Signed (fn y))):=by
 obtain⟨fv,fG,rfl,cB,cF⟩:=id hp
 obtain⟨Af,cf,xf,rfl,ea,eH⟩:=cB.one
 obtain⟨Ar,cr,xr,rfl,cL,du⟩:=cF.row
 obtain⟨Ay,cy,xy,rfl,uM,uN⟩:=hy.rat
 have iQ:=aP.rows;refine aU (args:=[_,_]) Tryz.func162 rfl rfl Tryz.ntmps162 rfl rfl fun w0=> ?_;refine ag [0,1] rfl ?_;refine ae ?_;refine bF rfl rfl ?_;refine vr 1 ?_;refine ab [1,2] ?_;refine al ?_;refine ae ?_;refine vr 6 ?_;refine ab [1,2,13] ?_;refine az rfl (fun hb=> ?_) (fun hb=> ?_)
 ·
  have hb:¬y.length=p.rows.length:=by simpa [Int.natCast_inj]using hb
  refine ae ?_;refine vr 1 ?_;refine ab [4] ?_;refine aq ⟨.inr rfl,_,.tmp rfl (.nil),?_⟩;exact⟨.refl _,false,rfl,⟨(fun h=>by cases h),(fun h=>absurd h.1 hb)⟩⟩
 ·
  have gi:y.length=p.rows.length:=by simpa [Int.natCast_inj]using hb
  rw[gi];refine aw ?_;refine ag [1,2] rfl ?_;refine al ?_;refine ae ?_;refine vr 4 ?_;refine ab [1,15,16,17] ?_;refine aD ?_;refine ft (fun(i:Nat)=>p.rows.length-i) (fun(i:Nat)=>put (put (put (put (emp) 1 (.val (.slice Ay p.rows.length cy))) 15 (.val (.slice Ar p.rows.length cr))) 16 (.val (.int .i64 (p.rows.length:Int)))) 17 (.val (.int .i64 (i:Int)))) (fun(i:Nat) H'=>Heap.le H H'∧(∀k,k<i→(p.lp.rel k=3→0≤fn y k)∧(p.lp.rel k=1→fn y k≤0))∧i≤p.rows.length) 0 (⟨.refl _,(fun j h=>by omega),Nat.zero_le _⟩) au ?_;rintro i H1 ⟨aI,cO,hi⟩;refine ae ?_;refine vr 1 ?_;refine ab [1,15,16,17,18] ?_;refine al ?_;refine az rfl (fun hb=> ?_) (fun hb=> ?_)
  ·
   have cQ:i<p.rows.length:=by simpa using hb
   obtain⟨r,hr⟩:∃r,p.rows[i]? = some r:=⟨_,List.getElem?_eq_getElem cQ⟩;obtain⟨A0,c0,f,A1,m1,c1,A2,m2,c2,fU,dL⟩:=du i r hr
   have iA:p.lp.rel i=r.2.1:=by show (p.row i).2.1=_;rw[Prg.gu hr]
   obtain⟨q,dG⟩:∃q,y[i]? = some q:=⟨_,List.getElem?_eq_getElem (by omega)⟩;obtain⟨g,B1,k1,e1,B2,k2,e2,eI,gA⟩:=uN i q dG;have eO:fn y i=q:=gq dG;refine aw ?_;refine ag [1,15,16,17] rfl ?_;refine al ?_;refine aD ?_;refine ae ?_;refine vr 1 ?_;refine cI (vs:=[.slice A0 r.1.length c0,.int .i64 r.2.1,.bool f,.slice A1 m1 c1,.slice A2 m2 c2]) af rfl rfl rfl rfl (cL.le aI) rfl (by decide) dL (by omega) (by omega) fun _=> ?_;refine bh gY rfl ?_;refine vr 1 ?_;obtain⟨ti,aj,ak⟩:=rU;refine aG (.inl ⟨rfl,rfl⟩) rfl rfl rfl aj ak rfl rfl rfl ?_;refine ab [1,5,6,15,16,17] ?_;refine ae ?_;refine vr 2 ?_;refine cI (vs:=[.bool g,.slice B1 k1 e1,.slice B2 k2 e2]) af rfl rfl rfl rfl (uM.le aI) rfl (by decide) gA (by omega) (by omega) fun _=> ?_;refine ar rfl rfl (KY (eI.le aI) (by omega)) ?_;rintro v2 H2 ⟨aM,rfl⟩;refine vr 1 ?_;refine ab [1,6,7,15,16,17] ?_
   by_cases h3:r.2.1=3
   ·
    skip
    by_cases hs:dF q<0
    ·
     skip
     refine ae ?_;refine vr 2 ?_;refine ax true rfl rfl (dz h3) ?_;refine vr 2 ?_;refine ax true rfl rfl (mA hs) ?_;refine vr 10 ?_;refine ab [1,15,16,17,42] ?_;refine cD rfl ?_;refine ae ?_;refine vr 1 ?_;refine ab [4] ?_;refine aq ⟨.inr rfl,_,.tmp rfl (.nil),?_⟩;exact⟨aI.trans aM,false,rfl,⟨(fun h=>by cases h),(fun h=>by have h9:=(h.2 i cQ).1 (by omega);rw[eO]at h9;have h8:=kV.2 h9;omega)⟩⟩
    ·
     skip
     refine ae ?_;refine vr 2 ?_;refine ax true rfl rfl (dz h3) ?_;refine vr 2 ?_;refine ax false rfl rfl (jw (by omega)) ?_;refine vr 4 ?_;refine ax false rfl rfl (eN (by omega)) ?_;refine vr 5 ?_;refine ab [1,15,16,17,42] ?_;refine dg rfl ?_;refine aw ?_;refine ag [1,15,16,17] rfl ?_;refine aE rfl ?_;refine aN rfl rfl ⟨by omega,by omega⟩ ?_;refine vr 1 ?_;refine aA ?_;exact⟨i+1,by omega,au,aI.trans aM,(fun k hk=>by by_cases h9:k<i;exact cO k h9;(obtain rfl:k=i:=by omega);rw[iA,eO];exact⟨fun _=>kV.1 (by omega),fun e=>by omega⟩),by omega⟩
   ·
    skip
    by_cases h1:r.2.1=1
    ·
     skip
     by_cases hs:0<dF q
     ·
      skip
      refine ae ?_;refine vr 2 ?_;refine ax false rfl rfl (eN h3) ?_;refine vr 7 ?_;refine ax true rfl rfl (dz h1) ?_;refine vr 2 ?_;refine ax true rfl rfl (iG hs) ?_;refine vr 2 ?_;refine ab [1,15,16,17,42] ?_;refine cD rfl ?_;refine ae ?_;refine vr 1 ?_;refine ab [4] ?_;refine aq ⟨.inr rfl,_,.tmp rfl (.nil),?_⟩;exact⟨aI.trans aM,false,rfl,⟨(fun h=>by cases h),(fun h=>by have h9:=(h.2 i cQ).2 (by omega);rw[eO]at h9;have h8:=nC.2 h9;omega)⟩⟩
     ·
      skip
      refine ae ?_;refine vr 2 ?_;refine ax false rfl rfl (eN h3) ?_;refine vr 7 ?_;refine ax true rfl rfl (dz h1) ?_;refine vr 2 ?_;refine ax false rfl rfl (fN (by omega)) ?_;refine vr 2 ?_;refine ab [1,15,16,17,42] ?_;refine dg rfl ?_;refine aw ?_;refine ag [1,15,16,17] rfl ?_;refine aE rfl ?_;refine aN rfl rfl ⟨by omega,by omega⟩ ?_;refine vr 1 ?_;refine aA ?_;exact⟨i+1,by omega,au,aI.trans aM,(fun k hk=>by by_cases h9:k<i;exact cO k h9;(obtain rfl:k=i:=by omega);rw[iA,eO];exact⟨fun e=>by omega,fun _=>nC.1 (by omega)⟩),by omega⟩
    ·
     skip
     refine ae ?_;refine vr 2 ?_;refine ax false rfl rfl (eN h3) ?_;refine vr 7 ?_;refine ax false rfl rfl (eN h1) ?_;refine vr 5 ?_;refine ab [1,15,16,17,42] ?_;refine dg rfl ?_;refine aw ?_;refine ag [1,15,16,17] rfl ?_;refine aE rfl ?_;refine aN rfl rfl ⟨by omega,by omega⟩ ?_;refine vr 1 ?_;refine aA ?_;exact⟨i+1,by omega,au,aI.trans aM,(fun k hk=>by by_cases h9:k<i;exact cO k h9;(obtain rfl:k=i:=by omega);rw[iA,eO];exact⟨fun e=>by omega,fun e=>by omega⟩),by omega⟩
  ·
   have hb:p.rows.length≤i:=by simpa using hb
   refine bB ?_;refine ag [] rfl ?_;refine ae ?_;refine vr 1 ?_;refine ab [4] ?_;refine aq ⟨.inr rfl,_,.tmp rfl (.nil),?_⟩;exact⟨aI,true,rfl,⟨(fun _=>⟨rfl,fun k hk=>cO k (Nat.lt_of_lt_of_le hk hb)⟩),fun _=>rfl⟩⟩
end Go.ay
