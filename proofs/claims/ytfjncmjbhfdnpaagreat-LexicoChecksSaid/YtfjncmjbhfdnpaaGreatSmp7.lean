/- Walks over package simplex, simplex.go, part 7: CheckUnbounded. -/
import Derived.Test.YtfjncmjbhfdnpaaGreatA10
import Derived.Test.YtfjncmjbhfdnpaaGreatSmp6
set_option linter.unusedVariables false
namespace Go.ay
open Go.Proofs Num Lp
theorem ae6{H:Heap}{v cv xv rv:Value}{p:Prg}{c x r:List Rat}{N:Nat}(hp:cN N H v p)(hc:aC (aS N) 3 H cv c)(hx:aC (aS N) 3 H xv x)(hr:aC (aS N) 3 H rv r)(oQ:(x.length:Int)≤1099511627776)(hN:N≤400000000):
 Fn Tryz.prog 91 #[v,cv,xv,rv] H (fun v H'=>Heap.le H H'∧∃b,v = .bool b∧(b=true↔AW p c x r)):=by
 obtain⟨fv,fG,rfl,cB,cF⟩:=id hp
 obtain⟨Af,cf,xf,rfl,ea,eH⟩:=cB.one
 obtain⟨Ar,cr,xr,rfl,cL,du⟩:=cF.row
 obtain⟨Ay,cy,xy,rfl,uM,uN⟩:=hr.rat
 obtain⟨Ac,cc,xc,rfl,Cd,Ce⟩:=hc.rat
 obtain⟨Ax,cx,xx,rfl,mR,mS⟩:=hx.rat;refine aU (args:=[_,_,_,_]) Tryz.func91 rfl rfl Tryz.ntmps91 rfl rfl fun w0=> ?_;refine ag [0,1,2,3] rfl ?_;refine ae ?_;refine bF rfl rfl ?_;refine vr 1 ?_;refine ab [1,2,3,4] ?_;refine al ?_
 by_cases hf:qW p x
 ·
  skip
  by_cases ej:c.length=p.free.length
  ·
   skip
   by_cases lF:r.length=p.free.length
   ·
    skip
    refine ae ?_;refine vr 2 ?_;refine ar rfl rfl (Gc hp hx oQ (by omega) hf) ?_;rintro v1 H1 ⟨aI,rfl⟩;refine vr 7 ?_;refine ax false rfl rfl (ko (by omega)) ?_;refine vr 7 ?_;refine ax false rfl rfl (ko (by omega)) ?_;refine vr 1 ?_;refine ab [1,3,4,29] ?_;refine dg rfl ?_;refine aw ?_;refine ag [1,3,4] rfl ?_;refine ae ?_;refine vr 1 ?_;refine ar rfl rfl (sE (hr.le (a8 N) aI) (by omega) (by have h9:=hf.ok.dR;omega)) ?_;rintro v3 H3 ⟨a7,jN⟩;have ra:=aI.trans a7;have dY:=hf.ok.dR;refine vr 1 ?_;refine ab [1,4,9] ?_
    by_cases hm:p.lp.dJ 0 (fn r)
    ·
     skip
     refine bL .bn [0,1,2,3,4,5,7,6,8,9,10,11,12] follows (by kernel_rfl) ?_;refine vr 2 ?_;refine aH rfl rfl (oy) (fun _ _ h=>by first | exact h.le | exact h.1) ?_;rintro v4 H4 ⟨e4,rfl⟩;rw[e4];refine aH rfl rfl (Fn.yes (OG (t:=0) (M:=N+2) (hp.le ra) hf.ok jN lF (ow H3 (n:=0) (by decide) (by decide)) (by decide) hr.ec (by omega) (by omega)) hm) (fun _ _ h=>by first | exact h.le | exact h.1) ?_;rintro v5 H5 ⟨cA,rfl⟩;refine vr 3 ?_;refine aH rfl rfl (sE (hc.le (a8 N) (ra.trans cA)) (by omega) (by omega)) (fun _ _ h=>by first | exact h.le | exact h.1) ?_;rintro v6 H6 ⟨fh,EP⟩;refine aH rfl rfl (HK (s:=N+2) EP (jN.le fD (cA.trans fh)) (by omega) hc.ec hr.ec (by rw[ej];have h9:((p.free.length:Int)+2)*(2*((N+2:Nat):Int)+2)≤402*(2*((N+2:Nat):Int)+2):=Int.mul_le_mul_of_nonneg_right (by omega) (by omega);omega)) (fun _ _ h=>by first | exact h.le | exact h.1) ?_;rintro _ H7 ⟨gw,vs7,rfl,Gb⟩;obtain⟨n7,d7,b7,rfl⟩:=Gb.cells;have ahl:=sZ (M:=N+2) c.length (fn c) (fn r) (fun j hj=>hc.ec _ (lI hj)) (fun j hj=>hr.ec _ (lI (by omega)));have ahm:c.length*(2*(N+2)+2)≤400*(2*(N+2)+2):=Nat.mul_le_mul_right _ (by omega);refine aH rfl rfl (iN Gb (by omega)) (fun _ _ h=>by first | exact h.le | exact h.1) ?_;rintro v8 H8 ⟨jt,rfl⟩
     refine vr 3 ?_;refine ab [8] ?_;refine aq ⟨.inr rfl,_,.tmp rfl (.nil),?_⟩;exact⟨(((ra.trans cA).trans fh).trans gw).trans jt,_,rfl,by simp only[decide_eq_true_eq,yE];rw[ej];exact⟨fun h=>⟨hf,ej,lF,⟨hf.meets,hm,h⟩⟩,fun h=>h.cert.neg⟩⟩
    ·
     skip
     refine bL .bn [0,1,2,3,4,5,7,6,8,9,10,11,12] follows (by kernel_rfl) ?_;refine vr 2 ?_;refine aH rfl rfl (oy) (fun _ _ h=>by first | exact h.le | exact h.1) ?_;rintro v4 H4 ⟨e4,rfl⟩;rw[e4];refine aH rfl rfl (Fn.no (OG (t:=0) (M:=N+2) (hp.le ra) hf.ok jN lF (ow H3 (n:=0) (by decide) (by decide)) (by decide) hr.ec (by omega) (by omega)) hm) (fun _ _ h=>by first | exact h.le | exact h.1) ?_;rintro v5 H5 ⟨cA,rfl⟩;refine vr 9 ?_;refine ab [8] ?_;refine aq ⟨.inr rfl,_,.tmp rfl (.nil),?_⟩;exact⟨ra.trans cA,false,rfl,⟨(fun h=>by cases h),(fun h=>absurd h.cert.ray hm)⟩⟩
   ·
    skip
    refine ae ?_;refine vr 2 ?_;refine ar rfl rfl (Gc hp hx oQ (by omega) hf) ?_;rintro v1 H1 ⟨aI,rfl⟩;refine vr 7 ?_;refine ax false rfl rfl (ko (by omega)) ?_;refine vr 7 ?_;refine ax true rfl rfl (kn (by omega)) ?_;refine vr 1 ?_;refine ab [1,3,4,29] ?_;refine cD rfl ?_;refine ae ?_;refine vr 1 ?_;refine ab [8] ?_;refine aq ⟨.inr rfl,_,.tmp rfl (.nil),?_⟩;exact⟨aI,false,rfl,⟨(fun h=>by cases h),(fun h=>absurd h.lD lF)⟩⟩
  ·
   skip
   refine ae ?_;refine vr 2 ?_;refine ar rfl rfl (Gc hp hx oQ (by omega) hf) ?_;rintro v1 H1 ⟨aI,rfl⟩;refine vr 7 ?_;refine ax true rfl rfl (kn (by omega)) ?_;refine vr 9 ?_;refine ab [1,3,4,29] ?_;refine cD rfl ?_;refine ae ?_;refine vr 1 ?_;refine ab [8] ?_;refine aq ⟨.inr rfl,_,.tmp rfl (.nil),?_⟩;exact⟨aI,false,rfl,⟨(fun h=>by cases h),(fun h=>absurd h.wc ej)⟩⟩
 ·
  skip
  refine ae ?_;refine vr 2 ?_;refine ar rfl rfl (Wa hp hx oQ (by omega) hf) ?_;rintro v1 H1 ⟨aI,rfl⟩;refine vr 17 ?_;refine ab [1,3,4,29] ?_;refine cD rfl ?_;refine ae ?_;refine vr 1 ?_;refine ab [8] ?_;refine aq ⟨.inr rfl,_,.tmp rfl (.nil),?_⟩;exact⟨aI,false,rfl,⟨(fun h=>by cases h),(fun h=>absurd h.dB hf)⟩⟩
end Go.ay
