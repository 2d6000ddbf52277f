/- Walks over package amortcostref22: Valid; package amortcostlaw22, part 2: kept, solvable. -/
import Derived.Test.YtfjncmjbhfdnpaaGreatA15
set_option linter.unusedVariables false
namespace Go.ar
open Go.Proofs Num Lp
theorem ajw{H:Heap}{v:Value}{p:Prg}{N:Nat}{A:Option Addr}{k c:Nat}{vs:List Value}{ls:List (List Rat)}(hp:eJ N H v p)(hr:Rd H A vs)(hk:k=ls.length)(hv:uR N H vs ls):
 Fn Tryz.prog 45 #[v,.slice A k c] H (fun v' H'=>H'=H∧∃b,v' = .bool b∧(b=true→Qg H v p 5 6∧uR 2 H vs ls∧∀l,l∈ls→l.length≤6)):=by
 obtain⟨fv,fN,rfl,eo,ep⟩:=id hp
 obtain⟨Af,cf,xf,rfl,gZ,hO⟩:=eo.one
 obtain⟨Ar,cr,xr,rfl,eK,fO⟩:=ep.row;refine aZ (args:=[_,_]) Tryz.func45 rfl rfl Tryz.ntmps45 rfl rfl fun w0=> ?_;refine ag [0,1] rfl ?_;refine ab ?_;refine bS rfl rfl ?_;refine vr 1 ?_;refine aa [1,2] ?_;refine ab ?_;refine vr 1 ?_;refine aw rfl rfl (ag8 (n:=5) (m:=6) hp (by omega) (by omega)) ?_;rintro v2 H2 ⟨e2,b2,rfl,cS⟩;rw[e2]
 cases b2
 ·
  skip
  refine vr 5 ?_;refine aa [4] ?_;refine az ⟨.inr rfl,_,.tmp rfl (.nil),?_⟩;exact⟨rfl,false,rfl,fun h=>by cases h⟩
 ·
  skip
  refine vr 2 ?_;refine aw rfl rfl (ag7 (m:=6) (n:=6) hr hk hv (by omega) (by omega)) ?_;rintro v3 H3 ⟨e3,b3,rfl,jl⟩;rw[e3];refine vr 2 ?_;refine aa [4] ?_;refine az ⟨.inr rfl,_,.tmp rfl (.nil),?_⟩;exact⟨rfl,b3,rfl,fun h=>⟨cS rfl,(jl h).1,(jl h).2.1⟩⟩
structure R9(H:Heap)(v cv:Value)(p:Prg)(c:List Rat):Prop where
 HV:Qg H v p 5 6
 vec:aR (ck 2) 3 H cv c
 ok:p.Ok
 len:c.length=p.free.length
theorem ajx{H:Heap}{v cv:Value}{p:Prg}{c:List Rat}{N:Nat}(hp:eJ N H v p)(hc:aR (ck N) 3 H cv c):
 Fn Tryz.prog 11 #[v,cv] H (fun v' H'=>Heap.le H H'∧∃b,v' = .bool b∧(b=true→R9 H' v cv p c)):=by
 obtain⟨fv,fN,rfl,eo,ep⟩:=id hp
 obtain⟨Af,cf,xf,rfl,gZ,hO⟩:=eo.one
 obtain⟨Ar,cr,xr,rfl,eK,fO⟩:=ep.row
 obtain⟨Ac,cc,xc,rfl,De,l0,FE⟩:=id hc;refine aZ (args:=[_,_]) Tryz.func11 rfl rfl Tryz.ntmps11 rfl rfl fun w0=> ?_;refine ag [0,1] rfl ?_;refine ab ?_;refine bS rfl rfl ?_;refine vr 1 ?_;refine aa [1,2] ?_;refine ab ?_;refine vr 2 ?_;refine dI Tryz.underlying40 xa rfl rfl rfl rfl rfl rfl rfl ?_;intro gb bD;have hle:=Heap.bI (whole (eT [.slice Ac c.length cc]) 26) bD;refine aw rfl rfl (ajw (N:=N) (vs:=[.slice Ac c.length cc]) (ls:=[c]) (hp.le hle) (eZ _ _ _ _ _ _) rfl (.cons (hc.le (ik N) hle) (ag5 _ _))) ?_;rintro v2 H2 ⟨e2,b2,rfl,cS⟩;rw[e2]
 cases b2
 ·
  skip
  refine vr 13 ?_;refine aa [4] ?_;refine az ⟨.inr rfl,_,.tmp rfl (.nil),?_⟩;exact⟨hle,false,rfl,fun h=>by cases h⟩
 ·
  skip
  refine vr 2 ?_;refine aw rfl rfl (aiq (hp.le hle)) ?_;rintro v3 H3 ⟨e3,b3,rfl,jl⟩;rw[e3]
  cases b3
  ·
   skip
   refine vr 10 ?_;refine aa [4] ?_;refine az ⟨.inr rfl,_,.tmp rfl (.nil),?_⟩;exact⟨hle,false,rfl,fun h=>by cases h⟩
  ·
   skip
   refine vr 10 ?_;refine aa [4] ?_;refine az ⟨.inr rfl,_,.tmp rfl (.nil),?_⟩;exact⟨hle,_,rfl,fun h=>⟨(cS rfl).1,(cS rfl).2.1.head,jl.1 rfl,by simpa [Int.natCast_inj]using h⟩⟩
end Go.ar
