/- Walks over package simplex, simplex.go, part 8: Check. -/
import Derived.Test.YtgjimcieaecdkaaGreatA10
import Derived.Test.YtgjimcieaecdkaaGreatSmp7
set_option linter.unusedVariables false
namespace Go.au
open Go.Proofs Num Lp
theorem ZD{H:Heap}{v cv xv dv rv u w:Value}{f:Bool}{p:Prg}{c:List Rat}{S:mX}{N:Nat}(hp:dN N H v p)(hc:aM (ca N) 3 H cv c)(hq:cj H (.agg #[.bool f,u,w]) S.value N)(hx:aM (ca N) 3 H xv S.x)(hd:aM (ca N) 3 H dv S.j0)(hr:aM (ca N) 3 H rv S.ik)(jq:(S.x.length:Int)≤1099511627776)(hN:N≤400000000):
 Fn Tryz.prog 19 #[v,cv,.agg #[.int .i64 S.status,.bool f,u,w,xv,dv,rv]] H (fun v H'=>Heap.le H H'∧∃b,v = .bool b∧(b=true↔fc p c S)):=by
 obtain⟨fv,j8,rfl,eu,ew⟩:=id hp
 obtain⟨Af,cf,xf,rfl,iR,iS⟩:=eu.one
 obtain⟨Ar,cr,xr,rfl,fy,eW⟩:=ew.row
 obtain⟨Ac,cc,xc,rfl,IY,IZ⟩:=hc.rat
 obtain⟨Ax,cx,xx,rfl,AR,AS⟩:=hx.rat
 obtain⟨Ad,cd,xd,rfl,hrD,hxD⟩:=hd.rat
 obtain⟨Ay,cy,xy,rfl,uX,uY⟩:=hr.rat
 obtain⟨f',u',w',l1,l2,k1,k2,k3,_⟩:=id hq
 obtain⟨A1,c1,rfl,_⟩:=k2
 obtain⟨A2,c2,rfl,_⟩:=k3
 obtain⟨rfl,rfl,rfl⟩:f=f'∧u=_∧w=_:=by simpa using k1
 refine aU (args:=[_,_,_]) Tryz.func19 rfl rfl Tryz.ntmps19 rfl rfl fun w0=> ?_;refine ah [0,1,2] rfl ?_;refine ae (bR rfl rfl (bR rfl rfl (aa 1 rfl (ab [1,3,5] ?_))));refine ao ?_
 by_cases bx:p.Ok
 ·
  skip
  by_cases dJ:c.length=p.free.length
  ·
   skip
   refine ae (aa 1 rfl (aq rfl rfl (AU hp bx) ?_));rintro v1 H1 ⟨e1,rfl⟩;rw[e1];refine aa 7 rfl (ax false rfl rfl (la (by omega)) (aa 1 rfl (ab [1,3,5,17] ?_)));refine cP rfl (aw (ah [1,3,5] rfl ?_));refine ao (ae (aa 2 rfl (ab [1,3,5,19] ?_)));refine aD (ae (aa 2 rfl (ab [1,3,5,19,20] ?_)));refine az rfl (fun hb=> ?_) (fun hb=> ?_)
   ·
    have cJ:S.status=1:=by simpa using hb
    have eT:=bx.eZ;refine ao ?_
    by_cases uZ:S.ik.length=0
    ·
     skip
     by_cases AY:yw p c S.x S.j0
     ·
      skip
      refine ae (aa 3 rfl (ax false rfl rfl (gD (by omega)) (aa 7 rfl (aq rfl rfl (Fn.yes (Pz hp hc hx hd jq hN) AY) ?_))));rintro v2 H2 ⟨aW,rfl⟩;have ck:=AY.ej.len;refine aa 2 rfl (ab [1,5,35] ?_);refine cP rfl (aw (ah [1,5] rfl ?_));refine bT .bN [0,2,3,6,7,1,4,5,8,9,10,11,12] follows (by kernel_rfl) ?_;refine aa 5 rfl (aI rfl rfl (o4 (hc.le (fu N) aW) (by omega) (by omega)) (fun _ _ h=>by first | exact h.le | exact h.1) ?_);rintro v8 H8 ⟨gG,rZ⟩;refine aI rfl rfl (o4 (hx.le (fu N) (aW.trans gG)) (by omega) (by omega)) (fun _ _ h=>by first | exact h.le | exact h.1) ?_;rintro v9 H9 ⟨eo,kN⟩;refine aI rfl rfl (CI (s:=N+2) (rZ.le dT eo) kN (by omega) hc.gT hx.gT (by rw[dJ];have h9:((p.free.length:Int)+2)*(2*((N+2:Nat):Int)+2)≤402*(2*((N+2:Nat):Int)+2):=Int.mul_le_mul_of_nonneg_right (by omega) (by omega);omega)) (fun _ _ h=>by first | exact h.le | exact h.1) ?_;rintro _ uy ⟨pE,ZX,rfl,AW⟩;obtain⟨IW,d10,IX,rfl⟩:=AW.cells;have ZY:=sw (M:=N+2) c.length (fn c) (fn S.x) (fun j hj=>hc.gT _ (my hj)) (fun j hj=>hx.gT _ (my (by omega)));have ZZ:c.length*(2*(N+2)+2)≤400*(2*(N+2)+2):=Nat.mul_le_mul_right _ (by omega)
      refine aI rfl rfl (p9 (hq.le (((aW.trans gG).trans eo).trans pE)) (by omega)) (fun _ _ h=>by first | exact h.le | exact h.1) ?_;rintro _ jJ ⟨qG,Z0,rfl,AX⟩;obtain⟨Pt,d11,Pu,rfl⟩:=AX.cells;have po:=hq.size;refine aI rfl rfl (o3 (N:=400*(2*(N+2)+2)+1) (AW.le qG) AX (by omega) (by omega) (by omega)) (fun _ _ h=>by first | exact h.le | exact h.1) ?_;rintro _ cS ⟨ng,abw,rfl,PB⟩;obtain⟨M0,d12,M1,rfl⟩:=PB.cells;have I0:=l5 (bL c.length (fn c) (fn S.x)) S.value;refine aI rfl rfl (fq PB (by omega)) (fun _ _ h=>by first | exact h.le | exact h.1) ?_;rintro GY kS ⟨kT,rfl⟩;refine aa 2 rfl (ab [6] ?_);refine ar ⟨.inr rfl,_,.tmp rfl (.nil),?_⟩;exact⟨((((((aW.trans gG).trans eo).trans pE).trans qG).trans ng).trans kT),_,rfl,by simp only[beq_iff_eq,j2];rw[dJ];exact⟨fun h=> .inl ⟨cJ,List.eq_nil_of_length_eq_zero uZ,AY,by grind⟩,fun h=>by have h9:=(fc.Gc h cJ).2.2;grind⟩⟩
     skip
     refine ae (aa 3 rfl (ax false rfl rfl (gD (by omega)) (aa 7 rfl (aq rfl rfl (Fn.no (Pz hp hc hx hd jq hN) AY) ?_))));rintro v2 H2 ⟨aW,rfl⟩;refine aa 2 rfl (ab [1,5,35] ?_);refine cI rfl (ae (aa 1 rfl (ab [6] ?_)));refine ar ⟨.inr rfl,_,.tmp rfl (.nil),?_⟩;exact⟨aW,false,rfl,⟨(fun h=>by cases h),(fun h=>absurd (fc.Gc h cJ).2.1 AY)⟩⟩
    skip
    refine ae (aa 3 rfl (ax true rfl rfl (jU (by omega)) (aa 10 rfl (ab [1,5,35] ?_))));refine cI rfl (ae (aa 1 rfl (ab [6] ?_)));refine ar ⟨.inr rfl,_,.tmp rfl (.nil),?_⟩;exact⟨.refl _,false,rfl,⟨(fun h=>by cases h),(fun h=>by have h9:=(fc.Gc h cJ).1;rw[h9]at uZ;simp at uZ)⟩⟩
   have abx:¬S.status=1:=by simpa using hb
   refine ae (aa 2 rfl (ab [1,3,5,19,48] ?_));refine az rfl (fun hb=> ?_) (fun hb=> ?_)
   ·
    have cJ:S.status=2:=by simpa using hb
    by_cases jB:S.value=0
    ·
     skip
     by_cases g6:S.x.length=0
     ·
      skip
      by_cases uZ:S.ik.length=0
      ·
       skip
       refine ae (aa 2 rfl (aq rfl rfl (p7 hq (by omega)) ?_));rintro v2 H2 ⟨aW,rfl⟩;refine ax true rfl rfl (eQ (j2.2 jB)) (aa 4 rfl (ax true rfl rfl (eQ (by omega)) (aa 5 rfl (ax true rfl rfl (eQ (by omega)) (aa 5 rfl (aq rfl rfl (ZW (hp.le aW) (hd.le (fu N) aW) (by omega)) ?_))))));rintro v3 H3 ⟨dH,b3,rfl,fY⟩;refine aa 2 rfl (ab [6] ?_);refine ar ⟨.inr rfl,_,.tmp rfl (.nil),?_⟩;exact⟨aW.trans dH,b3,rfl,⟨(fun h=> .inr (.inl ⟨cJ,jB,List.eq_nil_of_length_eq_zero g6,List.eq_nil_of_length_eq_zero uZ,dJ,fY.1 h⟩)),(fun h=>fY.2 (fc.CE h cJ).2.2.2.2)⟩⟩
      skip
      refine ae (aa 2 rfl (aq rfl rfl (p7 hq (by omega)) ?_));rintro v2 H2 ⟨aW,rfl⟩;refine ax true rfl rfl (eQ (j2.2 jB)) (aa 4 rfl (ax true rfl rfl (eQ (by omega)) (aa 5 rfl (ax false rfl rfl (fX (by omega)) (aa 8 rfl (ab [6] ?_))))));refine ar ⟨.inr rfl,_,.tmp rfl (.nil),?_⟩;exact⟨aW,false,rfl,⟨(fun h=>by cases h),(fun h=>by have h9:=(fc.CE h cJ).2.2.1;rw[h9]at uZ;simp at uZ)⟩⟩
     skip
     refine ae (aa 2 rfl (aq rfl rfl (p7 hq (by omega)) ?_));rintro v2 H2 ⟨aW,rfl⟩;refine ax true rfl rfl (eQ (j2.2 jB)) (aa 4 rfl (ax false rfl rfl (fX (by omega)) (aa 14 rfl (ab [6] ?_))));refine ar ⟨.inr rfl,_,.tmp rfl (.nil),?_⟩;exact⟨aW,false,rfl,⟨(fun h=>by cases h),(fun h=>by have h9:=(fc.CE h cJ).2.1;rw[h9]at g6;simp at g6)⟩⟩
    skip
    refine ae (aa 2 rfl (aq rfl rfl (p7 hq (by omega)) ?_));rintro v2 H2 ⟨aW,rfl⟩;refine ax false rfl rfl (fX (fun e=>jB (j2.1 e))) (aa 19 rfl (ab [6] ?_));refine ar ⟨.inr rfl,_,.tmp rfl (.nil),?_⟩;exact⟨aW,false,rfl,⟨(fun h=>by cases h),(fun h=>absurd (fc.CE h cJ).1 jB)⟩⟩
   have aby:¬S.status=2:=by simpa using hb
   refine ae (aa 2 rfl (ab [1,3,5,72] ?_));refine az rfl (fun hb=> ?_) (fun hb=> ?_)
   ·
    have cJ:S.status=3:=by simpa using hb
    by_cases jB:S.value=0
    ·
     skip
     by_cases mh:S.j0.length=0
     ·
      skip
      refine ae (aa 2 rfl (aq rfl rfl (p7 hq (by omega)) ?_));rintro v2 H2 ⟨aW,rfl⟩;refine ax true rfl rfl (eQ (j2.2 jB)) (aa 4 rfl (ax true rfl rfl (eQ (by omega)) (aa 8 rfl (aq rfl rfl (Z2 (hp.le aW) (hc.le (fu N) aW) (hx.le (fu N) aW) (hr.le (fu N) aW) jq hN) ?_))));rintro v3 H3 ⟨dH,b3,rfl,fY⟩;refine aa 2 rfl (ab [6] ?_);refine ar ⟨.inr rfl,_,.tmp rfl (.nil),?_⟩;exact⟨aW.trans dH,b3,rfl,⟨(fun h=> .inr (.inr ⟨cJ,jB,List.eq_nil_of_length_eq_zero mh,fY.1 h⟩)),(fun h=>fY.2 (fc.Gd h cJ).2.2)⟩⟩
     skip
     refine ae (aa 2 rfl (aq rfl rfl (p7 hq (by omega)) ?_));rintro v2 H2 ⟨aW,rfl⟩;refine ax true rfl rfl (eQ (j2.2 jB)) (aa 4 rfl (ax false rfl rfl (fX (by omega)) (aa 11 rfl (ab [6] ?_))));refine ar ⟨.inr rfl,_,.tmp rfl (.nil),?_⟩;exact⟨aW,false,rfl,⟨(fun h=>by cases h),(fun h=>by have h9:=(fc.Gd h cJ).2.1;rw[h9]at mh;simp at mh)⟩⟩
    skip
    refine ae (aa 2 rfl (aq rfl rfl (p7 hq (by omega)) ?_));rintro v2 H2 ⟨aW,rfl⟩;refine ax false rfl rfl (fX (fun e=>jB (j2.1 e))) (aa 16 rfl (ab [6] ?_));refine ar ⟨.inr rfl,_,.tmp rfl (.nil),?_⟩;exact⟨aW,false,rfl,⟨(fun h=>by cases h),(fun h=>absurd (fc.Gd h cJ).1 jB)⟩⟩
   have Mj:¬S.status=3:=by simpa using hb
   refine aw (ah [] rfl ?_);refine ae (aa 1 rfl (ab [6] ?_));refine ar ⟨.inr rfl,_,.tmp rfl (.nil),?_⟩;exact⟨.refl _,false,rfl,⟨(fun h=>by cases h),(fun h=>by rcases h with ⟨h1,_⟩ | ⟨h1,_⟩ | ⟨h1,_⟩ <;> omega)⟩⟩
  ·
   skip
   refine ae (aa 1 rfl (aq rfl rfl (AU hp bx) ?_));rintro v1 H1 ⟨e1,rfl⟩;rw[e1];refine aa 7 rfl (ax true rfl rfl (kq (by omega)) (aa 1 rfl (ab [1,3,5,17] ?_)));refine cI rfl (ae (aa 1 rfl (ab [6] ?_)));refine ar ⟨.inr rfl,_,.tmp rfl (.nil),?_⟩;exact⟨.refl _,false,rfl,⟨(fun h=>by cases h),(fun h=>absurd (fc.ok h).2 dJ)⟩⟩
 ·
  skip
  refine ae (aa 1 rfl (aq rfl rfl (IQ hp bx) ?_));rintro v1 H1 ⟨e1,rfl⟩;rw[e1];refine aa 9 rfl (ab [1,3,5,17] ?_);refine cI rfl (ae (aa 1 rfl (ab [6] ?_)));refine ar ⟨.inr rfl,_,.tmp rfl (.nil),?_⟩;exact⟨.refl _,false,rfl,⟨(fun h=>by cases h),(fun h=>absurd (fc.ok h).1 bx)⟩⟩
end Go.au
