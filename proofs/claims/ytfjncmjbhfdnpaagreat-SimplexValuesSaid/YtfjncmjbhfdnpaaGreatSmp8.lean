/- Walks over package simplex, simplex.go, part 8: Check. -/
import Derived.Test.YtfjncmjbhfdnpaaGreatA15
import Derived.Test.YtfjncmjbhfdnpaaGreatSmp7
set_option linter.unusedVariables false
namespace Go.ar
open Go.Proofs Num Lp
theorem ajJ{H:Heap}{v cv xv dv rv u w:Value}{f:Bool}{p:Prg}{c:List Rat}{S:q3}{N:Nat}(hp:eJ N H v p)(hc:aR (ck N) 3 H cv c)(hq:cH H (.agg #[.bool f,u,w]) S.value N)(hx:aR (ck N) 3 H xv S.x)(hd:aR (ck N) 3 H dv S.m9)(hr:aR (ck N) 3 H rv S.kV)(me:(S.x.length:Int)≤1099511627776)(hN:N≤400000000):
 Fn Tryz.prog 44 #[v,cv,.agg #[.int .i64 S.status,.bool f,u,w,xv,dv,rv]] H (fun v H'=>Heap.le H H'∧∃b,v = .bool b∧(b=true↔iC p c S)):=by
 obtain⟨fv,fN,rfl,eo,ep⟩:=id hp
 obtain⟨Af,cf,xf,rfl,gZ,hO⟩:=eo.one
 obtain⟨Ar,cr,xr,rfl,eK,fO⟩:=ep.row
 obtain⟨Ac,cc,xc,rfl,Sk,Sm⟩:=hc.rat
 obtain⟨Ax,cx,xx,rfl,HX,HY⟩:=hx.rat
 obtain⟨Ad,cd,xd,rfl,hrD,hxD⟩:=hd.rat
 obtain⟨Ay,cy,xy,rfl,BN,BO⟩:=hr.rat
 obtain⟨f',u',w',l1,l2,k1,k2,k3,_⟩:=id hq
 obtain⟨A1,c1,rfl,_⟩:=k2
 obtain⟨A2,c2,rfl,_⟩:=k3
 obtain⟨rfl,rfl,rfl⟩:f=f'∧u=_∧w=_:=by simpa using k1
 refine aZ (args:=[_,_,_]) Tryz.func44 rfl rfl Tryz.ntmps44 rfl rfl fun w0=> ?_;refine ag [0,1,2] rfl ?_;refine ab ?_;refine bS rfl rfl ?_;refine bS rfl rfl ?_;refine vr 1 ?_;refine aa [1,3,5] ?_;refine al ?_
 by_cases bg:p.Ok
 ·
  skip
  by_cases dA:c.length=p.free.length
  ·
   skip
   refine ab ?_;refine vr 1 ?_;refine aw rfl rfl (Ia hp bg) ?_;rintro v1 H1 ⟨e1,rfl⟩;rw[e1];refine vr 7 ?_;refine aA false rfl rfl (mV (by omega)) ?_;refine vr 1 ?_;refine aa [1,3,5,17] ?_;refine cU rfl ?_;refine au ?_;refine ag [1,3,5] rfl ?_;refine al ?_;refine ab ?_;refine vr 2 ?_;refine aa [1,3,5,19] ?_;refine aC ?_;refine ab ?_;refine vr 2 ?_;refine aa [1,3,5,19,20] ?_;refine aB rfl (fun hb=> ?_) (fun hb=> ?_)
   ·
    have cQ:S.status=1:=by simpa using hb
    have gL:=bg.gM;refine al ?_
    by_cases BP:S.kV.length=0
    ·
     skip
     by_cases xX:E2 p c S.x S.m9
     ·
      skip
      refine ab ?_;refine vr 3 ?_;refine aA false rfl rfl (gA (by omega)) ?_;refine vr 7 ?_;refine aw rfl rfl (Fn.yes (aal hp hc hx hd me hN) xX) ?_;rintro v2 H2 ⟨bh,rfl⟩;have cB:=xX.eF.len;refine vr 2 ?_;refine aa [1,5,35] ?_;refine cU rfl ?_;refine au ?_;refine ag [1,5] rfl ?_;refine bJ .bF [0,2,3,6,7,1,4,5,8,9,10,11,12] follows (by kernel_rfl) ?_;refine vr 5 ?_;refine aO rfl rfl (ui (hc.le (ik N) bh) (by omega) (by omega)) (fun _ _ h=>by first | exact h.le | exact h.1) ?_;rintro v8 H8 ⟨kL,yq⟩;refine aO rfl rfl (ui (hx.le (ik N) (bh.trans kL)) (by omega) (by omega)) (fun _ _ h=>by first | exact h.le | exact h.1) ?_;rintro v9 H9 ⟨dX,nr⟩;refine aO rfl rfl (JC (s:=N+2) (yq.le fJ dX) nr (by omega) hc.jF hx.jF (by rw[dA];have h9:((p.free.length:Int)+2)*(2*((N+2:Nat):Int)+2)≤402*(2*((N+2:Nat):Int)+2):=Int.mul_le_mul_of_nonneg_right (by omega) (by omega);omega)) (fun _ _ h=>by first | exact h.le | exact h.1) ?_;rintro _ pj ⟨oE,ajR,rfl,Ic⟩;obtain⟨Hr,d10,BG,rfl⟩:=Ic.cells;have ajS:=yD (M:=N+2) c.length (fn c) (fn S.x) (fun j hj=>hc.jF _ (qw hj)) (fun j hj=>hx.jF _ (qw (by omega)));have ajT:c.length*(2*(N+2)+2)≤400*(2*(N+2)+2):=Nat.mul_le_mul_right _ (by omega)
      refine aO rfl rfl (vG (hq.le (((bh.trans kL).trans dX).trans oE)) (by omega)) (fun _ _ h=>by first | exact h.le | exact h.1) ?_;rintro _ im ⟨rL,ajU,rfl,Ie⟩;obtain⟨oM,d11,b11,rfl⟩:=Ie.cells;have uD:=hq.size;refine aO rfl rfl (ug (N:=400*(2*(N+2)+2)+1) (Ic.le rL) Ie (by omega) (by omega) (by omega)) (fun _ _ h=>by first | exact h.le | exact h.1) ?_;rintro _ cV ⟨iX,alB,rfl,aan⟩;obtain⟨Wo,d12,Wp,rfl⟩:=aan.cells;have Sn:=om (cj c.length (fn c) (fn S.x)) S.value;refine aO rfl rfl (iT aan (by omega)) (fun _ _ h=>by first | exact h.le | exact h.1) ?_;rintro OP kN ⟨jT,rfl⟩;refine vr 2 ?_;refine aa [6] ?_;refine az ⟨.inr rfl,_,.tmp rfl (.nil),?_⟩;exact⟨((((((bh.trans kL).trans dX).trans oE).trans rL).trans iX).trans jT),_,rfl,by simp only[beq_iff_eq,lA];rw[dA];exact⟨fun h=> .inl ⟨cQ,List.eq_nil_of_length_eq_zero BP,xX,by grind⟩,fun h=>by have h9:=(iC.NZ h cQ).2.2;grind⟩⟩
     ·
      skip
      refine ab ?_;refine vr 3 ?_;refine aA false rfl rfl (gA (by omega)) ?_;refine vr 7 ?_;refine aw rfl rfl (Fn.no (aal hp hc hx hd me hN) xX) ?_;rintro v2 H2 ⟨bh,rfl⟩;refine vr 2 ?_;refine aa [1,5,35] ?_;refine cD rfl ?_;refine ab ?_;refine vr 1 ?_;refine aa [6] ?_;refine az ⟨.inr rfl,_,.tmp rfl (.nil),?_⟩;exact⟨bh,false,rfl,⟨(fun h=>by cases h),(fun h=>absurd (iC.NZ h cQ).2.1 xX)⟩⟩
    ·
     skip
     refine ab ?_;refine vr 3 ?_;refine aA true rfl rfl (kS (by omega)) ?_;refine vr 10 ?_;refine aa [1,5,35] ?_;refine cD rfl ?_;refine ab ?_;refine vr 1 ?_;refine aa [6] ?_;refine az ⟨.inr rfl,_,.tmp rfl (.nil),?_⟩;exact⟨.refl _,false,rfl,⟨(fun h=>by cases h),(fun h=>by have h9:=(iC.NZ h cQ).1;rw[h9]at BP;simp at BP)⟩⟩
   ·
    have alC:¬S.status=1:=by simpa using hb
    refine ab ?_;refine vr 2 ?_;refine aa [1,3,5,19,48] ?_;refine aB rfl (fun hb=> ?_) (fun hb=> ?_)
    ·
     have cQ:S.status=2:=by simpa using hb
     by_cases mC:S.value=0
     ·
      skip
      by_cases jN:S.x.length=0
      ·
       skip
       by_cases BP:S.kV.length=0
       ·
        skip
        refine ab ?_;refine vr 2 ?_;refine aw rfl rfl (vC hq (by omega)) ?_;rintro v2 H2 ⟨bh,rfl⟩;refine aA true rfl rfl (fk (lA.2 mC)) ?_;refine vr 4 ?_;refine aA true rfl rfl (fk (by omega)) ?_;refine vr 5 ?_;refine aA true rfl rfl (fk (by omega)) ?_;refine vr 5 ?_;refine aw rfl rfl (ajQ (hp.le bh) (hd.le (ik N) bh) (by omega)) ?_;rintro v3 H3 ⟨dC,b3,rfl,jl⟩;refine vr 2 ?_;refine aa [6] ?_;refine az ⟨.inr rfl,_,.tmp rfl (.nil),?_⟩;exact⟨bh.trans dC,b3,rfl,⟨(fun h=> .inr (.inl ⟨cQ,mC,List.eq_nil_of_length_eq_zero jN,List.eq_nil_of_length_eq_zero BP,dA,jl.1 h⟩)),(fun h=>jl.2 (iC.Jy h cQ).2.2.2.2)⟩⟩
       ·
        skip
        refine ab ?_;refine vr 2 ?_;refine aw rfl rfl (vC hq (by omega)) ?_;rintro v2 H2 ⟨bh,rfl⟩;refine aA true rfl rfl (fk (lA.2 mC)) ?_;refine vr 4 ?_;refine aA true rfl rfl (fk (by omega)) ?_;refine vr 5 ?_;refine aA false rfl rfl (gI (by omega)) ?_;refine vr 8 ?_;refine aa [6] ?_;refine az ⟨.inr rfl,_,.tmp rfl (.nil),?_⟩;exact⟨bh,false,rfl,⟨(fun h=>by cases h),(fun h=>by have h9:=(iC.Jy h cQ).2.2.1;rw[h9]at BP;simp at BP)⟩⟩
      ·
       skip
       refine ab ?_;refine vr 2 ?_;refine aw rfl rfl (vC hq (by omega)) ?_;rintro v2 H2 ⟨bh,rfl⟩;refine aA true rfl rfl (fk (lA.2 mC)) ?_;refine vr 4 ?_;refine aA false rfl rfl (gI (by omega)) ?_;refine vr 14 ?_;refine aa [6] ?_;refine az ⟨.inr rfl,_,.tmp rfl (.nil),?_⟩;exact⟨bh,false,rfl,⟨(fun h=>by cases h),(fun h=>by have h9:=(iC.Jy h cQ).2.1;rw[h9]at jN;simp at jN)⟩⟩
     ·
      skip
      refine ab ?_;refine vr 2 ?_;refine aw rfl rfl (vC hq (by omega)) ?_;rintro v2 H2 ⟨bh,rfl⟩;refine aA false rfl rfl (gI (fun e=>mC (lA.1 e))) ?_;refine vr 19 ?_;refine aa [6] ?_;refine az ⟨.inr rfl,_,.tmp rfl (.nil),?_⟩;exact⟨bh,false,rfl,⟨(fun h=>by cases h),(fun h=>absurd (iC.Jy h cQ).1 mC)⟩⟩
    ·
     have Bv:¬S.status=2:=by simpa using hb
     refine ab ?_;refine vr 2 ?_;refine aa [1,3,5,72] ?_;refine aB rfl (fun hb=> ?_) (fun hb=> ?_)
     ·
      have cQ:S.status=3:=by simpa using hb
      by_cases mC:S.value=0
      ·
       skip
       by_cases qi:S.m9.length=0
       ·
        skip
        refine ab ?_;refine vr 2 ?_;refine aw rfl rfl (vC hq (by omega)) ?_;rintro v2 H2 ⟨bh,rfl⟩;refine aA true rfl rfl (fk (lA.2 mC)) ?_;refine vr 4 ?_;refine aA true rfl rfl (fk (by omega)) ?_;refine vr 8 ?_;refine aw rfl rfl (ajW (hp.le bh) (hc.le (ik N) bh) (hx.le (ik N) bh) (hr.le (ik N) bh) me hN) ?_;rintro v3 H3 ⟨dC,b3,rfl,jl⟩;refine vr 2 ?_;refine aa [6] ?_;refine az ⟨.inr rfl,_,.tmp rfl (.nil),?_⟩;exact⟨bh.trans dC,b3,rfl,⟨(fun h=> .inr (.inr ⟨cQ,mC,List.eq_nil_of_length_eq_zero qi,jl.1 h⟩)),(fun h=>jl.2 (iC.N2 h cQ).2.2)⟩⟩
       ·
        skip
        refine ab ?_;refine vr 2 ?_;refine aw rfl rfl (vC hq (by omega)) ?_;rintro v2 H2 ⟨bh,rfl⟩;refine aA true rfl rfl (fk (lA.2 mC)) ?_;refine vr 4 ?_;refine aA false rfl rfl (gI (by omega)) ?_;refine vr 11 ?_;refine aa [6] ?_;refine az ⟨.inr rfl,_,.tmp rfl (.nil),?_⟩;exact⟨bh,false,rfl,⟨(fun h=>by cases h),(fun h=>by have h9:=(iC.N2 h cQ).2.1;rw[h9]at qi;simp at qi)⟩⟩
      ·
       skip
       refine ab ?_;refine vr 2 ?_;refine aw rfl rfl (vC hq (by omega)) ?_;rintro v2 H2 ⟨bh,rfl⟩;refine aA false rfl rfl (gI (fun e=>mC (lA.1 e))) ?_;refine vr 16 ?_;refine aa [6] ?_;refine az ⟨.inr rfl,_,.tmp rfl (.nil),?_⟩;exact⟨bh,false,rfl,⟨(fun h=>by cases h),(fun h=>absurd (iC.N2 h cQ).1 mC)⟩⟩
     ·
      have VM:¬S.status=3:=by simpa using hb
      refine au ?_;refine ag [] rfl ?_;refine ab ?_;refine vr 1 ?_;refine aa [6] ?_;refine az ⟨.inr rfl,_,.tmp rfl (.nil),?_⟩;exact⟨.refl _,false,rfl,⟨(fun h=>by cases h),(fun h=>by rcases h with ⟨h1,_⟩ | ⟨h1,_⟩ | ⟨h1,_⟩ <;> omega)⟩⟩
  ·
   skip
   refine ab ?_;refine vr 1 ?_;refine aw rfl rfl (Ia hp bg) ?_;rintro v1 H1 ⟨e1,rfl⟩;rw[e1];refine vr 7 ?_;refine aA true rfl rfl (my (by omega)) ?_;refine vr 1 ?_;refine aa [1,3,5,17] ?_;refine cD rfl ?_;refine ab ?_;refine vr 1 ?_;refine aa [6] ?_;refine az ⟨.inr rfl,_,.tmp rfl (.nil),?_⟩;exact⟨.refl _,false,rfl,⟨(fun h=>by cases h),(fun h=>absurd (iC.ok h).2 dA)⟩⟩
 ·
  skip
  refine ab ?_;refine vr 1 ?_;refine aw rfl rfl (Sf hp bg) ?_;rintro v1 H1 ⟨e1,rfl⟩;rw[e1];refine vr 9 ?_;refine aa [1,3,5,17] ?_;refine cD rfl ?_;refine ab ?_;refine vr 1 ?_;refine aa [6] ?_;refine az ⟨.inr rfl,_,.tmp rfl (.nil),?_⟩;exact⟨.refl _,false,rfl,⟨(fun h=>by cases h),(fun h=>absurd (iC.ok h).1 bg)⟩⟩
end Go.ar
