/- Walks over package simplex, simplex.go, part 7: CheckUnbounded. -/
import Derived.Test.YtfjncmjbhfdnpaaGreatA15
import Derived.Test.YtfjncmjbhfdnpaaGreatSmp6
set_option linter.unusedVariables false
namespace Go.ar
open Go.Proofs Num Lp
theorem ajW{H:Heap}{v cv xv rv:Value}{p:Prg}{c x r:List Rat}{N:Nat}(hp:eJ N H v p)(hc:aR (ck N) 3 H cv c)(hx:aR (ck N) 3 H xv x)(hr:aR (ck N) 3 H rv r)(me:(x.length:Int)≤1099511627776)(hN:N≤400000000):
 Fn Tryz.prog 91 #[v,cv,xv,rv] H (fun v H'=>Heap.le H H'∧∃b,v = .bool b∧(b=true↔Jv p c x r)):=by
 obtain⟨fv,fN,rfl,eo,ep⟩:=id hp
 obtain⟨Af,cf,xf,rfl,gZ,hO⟩:=eo.one
 obtain⟨Ar,cr,xr,rfl,eK,fO⟩:=ep.row
 obtain⟨Ay,cy,xy,rfl,BN,BO⟩:=hr.rat
 obtain⟨Ac,cc,xc,rfl,Sk,Sm⟩:=hc.rat
 obtain⟨Ax,cx,xx,rfl,HX,HY⟩:=hx.rat;refine aZ (args:=[_,_,_,_]) Tryz.func91 rfl rfl Tryz.ntmps91 rfl rfl fun w0=> ?_;refine ag [0,1,2,3] rfl ?_;refine ab ?_;refine bS rfl rfl ?_;refine vr 1 ?_;refine aa [1,2,3,4] ?_;refine al ?_
 by_cases hf:zP p x
 ·
  skip
  by_cases dA:c.length=p.free.length
  ·
   skip
   by_cases ks:r.length=p.free.length
   ·
    skip
    refine ab ?_;refine vr 2 ?_;refine aw rfl rfl (Ib hp hx me (by omega) hf) ?_;rintro v1 H1 ⟨bH,rfl⟩;refine vr 7 ?_;refine aA false rfl rfl (mV (by omega)) ?_;refine vr 7 ?_;refine aA false rfl rfl (mV (by omega)) ?_;refine vr 1 ?_;refine aa [1,3,4,29] ?_;refine cU rfl ?_;refine au ?_;refine ag [1,3,4] rfl ?_;refine ab ?_;refine vr 1 ?_;refine aw rfl rfl (ui (hr.le (ik N) bH) (by omega) (by have h9:=hf.ok.gM;omega)) ?_;rintro v3 H3 ⟨dC,Aq⟩;have jT:=bH.trans dC;have gL:=hf.ok.gM;refine vr 1 ?_;refine aa [1,4,9] ?_
    by_cases hm:p.lp.jB 0 (fn r)
    ·
     skip
     refine bJ .bF [0,1,2,3,4,5,7,6,8,9,10,11,12] follows (by kernel_rfl) ?_;refine vr 2 ?_;refine aO rfl rfl (pe) (fun _ _ h=>by first | exact h.le | exact h.1) ?_;rintro v4 H4 ⟨e4,rfl⟩;rw[e4];refine aO rfl rfl (Fn.yes (Se (t:=0) (M:=N+2) (hp.le jT) hf.ok Aq ks (pd H3 (n:=0) (by decide) (by decide)) (by decide) hr.jF (by omega) (by omega)) hm) (fun _ _ h=>by first | exact h.le | exact h.1) ?_;rintro v5 H5 ⟨dy,rfl⟩;refine vr 3 ?_;refine aO rfl rfl (ui (hc.le (ik N) (jT.trans dy)) (by omega) (by omega)) (fun _ _ h=>by first | exact h.le | exact h.1) ?_;rintro v6 H6 ⟨jr,Gf⟩;refine aO rfl rfl (JC (s:=N+2) Gf (Aq.le fJ (dy.trans jr)) (by omega) hc.jF hr.jF (by rw[dA];have h9:((p.free.length:Int)+2)*(2*((N+2:Nat):Int)+2)≤402*(2*((N+2:Nat):Int)+2):=Int.mul_le_mul_of_nonneg_right (by omega) (by omega);omega)) (fun _ _ h=>by first | exact h.le | exact h.1) ?_;rintro _ H7 ⟨kK,YN,rfl,HZ⟩;obtain⟨n7,d7,b7,rfl⟩:=HZ.cells;have alz:=yD (M:=N+2) c.length (fn c) (fn r) (fun j hj=>hc.jF _ (qw hj)) (fun j hj=>hr.jF _ (qw (by omega)));have alA:c.length*(2*(N+2)+2)≤400*(2*(N+2)+2):=Nat.mul_le_mul_right _ (by omega);refine aO rfl rfl (iT HZ (by omega)) (fun _ _ h=>by first | exact h.le | exact h.1) ?_;rintro v8 H8 ⟨kL,rfl⟩
     refine vr 3 ?_;refine aa [8] ?_;refine az ⟨.inr rfl,_,.tmp rfl (.nil),?_⟩;exact⟨(((jT.trans dy).trans jr).trans kK).trans kL,_,rfl,by simp only[decide_eq_true_eq,CI];rw[dA];exact⟨fun h=>⟨hf,dA,ks,⟨hf.meets,hm,h⟩⟩,fun h=>h.cert.neg⟩⟩
    ·
     skip
     refine bJ .bF [0,1,2,3,4,5,7,6,8,9,10,11,12] follows (by kernel_rfl) ?_;refine vr 2 ?_;refine aO rfl rfl (pe) (fun _ _ h=>by first | exact h.le | exact h.1) ?_;rintro v4 H4 ⟨e4,rfl⟩;rw[e4];refine aO rfl rfl (Fn.no (Se (t:=0) (M:=N+2) (hp.le jT) hf.ok Aq ks (pd H3 (n:=0) (by decide) (by decide)) (by decide) hr.jF (by omega) (by omega)) hm) (fun _ _ h=>by first | exact h.le | exact h.1) ?_;rintro v5 H5 ⟨dy,rfl⟩;refine vr 9 ?_;refine aa [8] ?_;refine az ⟨.inr rfl,_,.tmp rfl (.nil),?_⟩;exact⟨jT.trans dy,false,rfl,⟨(fun h=>by cases h),(fun h=>absurd h.cert.kV hm)⟩⟩
   ·
    skip
    refine ab ?_;refine vr 2 ?_;refine aw rfl rfl (Ib hp hx me (by omega) hf) ?_;rintro v1 H1 ⟨bH,rfl⟩;refine vr 7 ?_;refine aA false rfl rfl (mV (by omega)) ?_;refine vr 7 ?_;refine aA true rfl rfl (my (by omega)) ?_;refine vr 1 ?_;refine aa [1,3,4,29] ?_;refine cD rfl ?_;refine ab ?_;refine vr 1 ?_;refine aa [8] ?_;refine az ⟨.inr rfl,_,.tmp rfl (.nil),?_⟩;exact⟨bH,false,rfl,⟨(fun h=>by cases h),(fun h=>absurd h.gN ks)⟩⟩
  ·
   skip
   refine ab ?_;refine vr 2 ?_;refine aw rfl rfl (Ib hp hx me (by omega) hf) ?_;rintro v1 H1 ⟨bH,rfl⟩;refine vr 7 ?_;refine aA true rfl rfl (my (by omega)) ?_;refine vr 9 ?_;refine aa [1,3,4,29] ?_;refine cD rfl ?_;refine ab ?_;refine vr 1 ?_;refine aa [8] ?_;refine az ⟨.inr rfl,_,.tmp rfl (.nil),?_⟩;exact⟨bH,false,rfl,⟨(fun h=>by cases h),(fun h=>absurd h.E3 dA)⟩⟩
 ·
  skip
  refine ab ?_;refine vr 2 ?_;refine aw rfl rfl (aak hp hx me (by omega) hf) ?_;rintro v1 H1 ⟨bH,rfl⟩;refine vr 17 ?_;refine aa [1,3,4,29] ?_;refine cD rfl ?_;refine ab ?_;refine vr 1 ?_;refine aa [8] ?_;refine az ⟨.inr rfl,_,.tmp rfl (.nil),?_⟩;exact⟨bH,false,rfl,⟨(fun h=>by cases h),(fun h=>absurd h.eF hf)⟩⟩
end Go.ar
