/- Walks over package simplex, simplex.go, part 3: Feasible, signed. -/
import Derived.Test.YtgjimcieaecdkaaGreatA10
import Derived.Test.YtgjimcieaecdkaaGreatSmp2
set_option linter.unusedVariables false
namespace Go.ar
open Go.Proofs Num Lp
theorem So{H:Heap}{v:Value}{p:Prg}{N:Nat}(hp:dE N H v p)(a8:p.Ok):Fn Tryz.prog 22 #[v] H (nH H (.bool true)):=
 (Cd hp).mono fun v H' ⟨h1,b,h2,h3⟩=>⟨h1,by rw[h2,h3.2 a8]⟩
theorem acJ{H:Heap}{v:Value}{p:Prg}{N:Nat}(hp:dE N H v p)(a8:¬p.Ok):Fn Tryz.prog 22 #[v] H (nH H (.bool false)):=
 (Cd hp).mono fun v H' ⟨h1,b,h2,h3⟩=>⟨h1,by
  cases b with
  | false=>exact h2
  | true=>exact absurd (h3.1 rfl) a8⟩
theorem Gc{H:Heap}{v xv:Value}{p:Prg}{x:List Rat}{N:Nat}(hp:dE N H v p)(hx:aH (bJ N) 3 H xv x)(hxN:(x.length:Int)≤1099511627776)(hN:N≤1299999998):
 Fn Tryz.prog 13 #[v,xv] H (fun v H'=>Heap.le H H'∧∃b,v = .bool b∧(b=true↔vf p x)):=by
 obtain⟨fv,l7,rfl,eA,fa⟩:=id hp
 obtain⟨Af,cf,xf,rfl,kF,kG⟩:=eA.one
 obtain⟨Ar,cr,xr,rfl,fQ,fA⟩:=fa.row
 obtain⟨Ax,cx,xx,rfl,Sh,Si⟩:=hx.rat;refine aW (args:=[_,_]) Tryz.func13 rfl rfl Tryz.ntmps13 rfl rfl fun w0=> ?_;refine aj [0,1] rfl ?_;refine af (bY rfl rfl (ab 1 rfl (ae [1,2] ?_)))
 by_cases a8:p.Ok
 ·
  skip
  by_cases cj:x.length=p.free.length
  ·
   skip
   refine cg .bR [0,1,2,3,4,5,6,7,8,9,10,11,12,13,14,15,16,17] follows (by kernel_rfl) ?_;refine ab 1 rfl (aT rfl rfl (So hp a8) (fun _ _ h=>by first | exact h.le | exact h.1) ?_);rintro v1 H1 ⟨e1,rfl⟩;rw[e1];refine ab 6 rfl (aS true rfl rfl (lM (by omega)) (ab 4 rfl (aT rfl rfl (Em hx (by omega) hxN) (fun _ _ h=>by first | exact h.le | exact h.1) ?_)));rintro v2 H2 ⟨ct,jY⟩;refine aT rfl rfl (oP) (fun _ _ h=>by first | exact h.le | exact h.1) ?_;rintro v3 H3 ⟨e3,rfl⟩;rw[e3];refine aT rfl rfl (acI (t:=1) (M:=N+2) (hp.le ct) a8 jY cj (oO H2 (n:=1) (by decide) (by decide)) (by decide) hx.Q7 (by omega) (by omega)) (fun _ _ h=>by first | exact h.le | exact h.1) ?_;rintro v4 H4 ⟨eZ,b4,rfl,ye⟩;refine ab 2 rfl (ae [4] ?_);refine aw ⟨.inr rfl,_,.tmp rfl (.nil),?_⟩;exact⟨ct.trans eZ,b4,rfl,⟨(fun h=>⟨a8,cj,ye.1 h⟩),fun h=>ye.2 h.meets⟩⟩
  ·
   skip
   refine cg .bR [0,1,2,3,4,5,6,7,8,9,10,11,12,13,14,15,16,17] follows (by kernel_rfl) ?_;refine ab 1 rfl (aT rfl rfl (So hp a8) (fun _ _ h=>by first | exact h.le | exact h.1) ?_);rintro v1 H1 ⟨e1,rfl⟩;rw[e1];refine ab 6 rfl (aS false rfl rfl (lN (by omega)) (ab 9 rfl (ae [4] ?_)));refine aw ⟨.inr rfl,_,.tmp rfl (.nil),?_⟩;exact⟨.refl _,false,rfl,⟨(fun h=>by cases h),(fun h=>absurd h.len cj)⟩⟩
 ·
  skip
  refine cg .bR [0,1,2,3,4,5,6,7,8,9,10,11,12,13,14,15,16,17] follows (by kernel_rfl) ?_;refine ab 1 rfl (aT rfl rfl (acJ hp a8) (fun _ _ h=>by first | exact h.le | exact h.1) ?_);rintro v1 H1 ⟨e1,rfl⟩;rw[e1];refine ab 16 rfl (ae [4] ?_);refine aw ⟨.inr rfl,_,.tmp rfl (.nil),?_⟩;exact⟨.refl _,false,rfl,⟨(fun h=>by cases h),(fun h=>absurd h.ok a8)⟩⟩
end Go.ar
