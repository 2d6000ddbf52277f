/- Walks over package amortcostref22: Valid; package amortcostlaw22, part 2: kept, solvable. -/
import Derived.Test.YtgjimcieaecdkaaGreatA10
import Derived.Test.YtgjimcieaecdkaaGreatVal2
set_option linter.unusedVariables false
namespace Go.au
open Go.Proofs Num Lp
theorem Zf{H:Heap}{v:Value}{p:Prg}{N:Nat}{A:Option Addr}{k c:Nat}{vs:List Value}{ls:List (List Rat)}(hp:dN N H v p)(hr:Rd H A vs)(hk:k=ls.length)(hv:pI N H vs ls):
 Fn Tryz.prog 20 #[v,.slice A k c] H (fun v' H'=>H'=H∧∃b,v' = .bool b∧(b=true→wY H v p 5 6∧pI 2 H vs ls∧∀l,l∈ls→l.length≤6)):=by
 obtain⟨fv,j8,rfl,eu,ew⟩:=id hp
 obtain⟨Af,cf,xf,rfl,iR,iS⟩:=eu.one
 obtain⟨Ar,cr,xr,rfl,fy,eW⟩:=ew.row;refine aU (args:=[_,_]) Tryz.func20 rfl rfl Tryz.ntmps20 rfl rfl fun w0=> ?_;refine ah [0,1] rfl ?_;refine ae (bR rfl rfl (aa 1 rfl (ab [1,2] ?_)));refine ae (aa 1 rfl (aq rfl rfl (Yy (n:=5) (m:=6) hp (by omega) (by omega)) ?_));rintro v2 H2 ⟨e2,b2,rfl,cD⟩;rw[e2]
 cases b2
 ·
  skip
  refine aa 5 rfl (ab [4] ?_);refine ar ⟨.inr rfl,_,.tmp rfl (.nil),?_⟩;exact⟨rfl,false,rfl,fun h=>by cases h⟩
 ·
  skip
  refine aa 2 rfl (aq rfl rfl (Yx (m:=6) (n:=6) hr hk hv (by omega) (by omega)) ?_);rintro v3 H3 ⟨e3,b3,rfl,fY⟩;rw[e3];refine aa 2 rfl (ab [4] ?_);refine ar ⟨.inr rfl,_,.tmp rfl (.nil),?_⟩;exact⟨rfl,b3,rfl,fun h=>⟨cD rfl,(fY h).1,(fY h).2.1⟩⟩
structure w6(H:Heap)(v cv:Value)(p:Prg)(c:List Rat):Prop where
 AQ:wY H v p 5 6
 vec:aM (ca 2) 3 H cv c
 ok:p.Ok
 len:c.length=p.free.length
theorem w6.le{H H':Heap}{v cv:Value}{p:Prg}{c:List Rat}(h:w6 H v cv p c)(hl:Heap.le H H'):w6 H' v cv p c:=⟨h.AQ.le hl,h.vec.le (fu 2) hl,h.ok,h.len⟩
theorem O6{H:Heap}{v cv:Value}{p:Prg}{c:List Rat}{N:Nat}(hp:dN N H v p)(hc:aM (ca N) 3 H cv c):
 Fn Tryz.prog 6 #[v,cv] H (fun v' H'=>Heap.le H H'∧∃b,v' = .bool b∧(b=true→w6 H' v cv p c)):=by
 obtain⟨fv,j8,rfl,eu,ew⟩:=id hp
 obtain⟨Af,cf,xf,rfl,iR,iS⟩:=eu.one
 obtain⟨Ar,cr,xr,rfl,fy,eW⟩:=ew.row
 obtain⟨Ac,cc,xc,rfl,HG,o9,zm⟩:=id hc;refine aU (args:=[_,_]) Tryz.func6 rfl rfl Tryz.ntmps6 rfl rfl fun w0=> ?_;refine ah [0,1] rfl ?_;refine ae (bR rfl rfl (aa 1 rfl (ab [1,2] ?_)));refine ae (aa 2 rfl (dD Tryz.underlying75 R1 rfl rfl rfl rfl rfl rfl rfl ?_));intro gb bO;have hle:=Heap.bh (whole (eB [.slice Ac c.length cc]) 26) bO;refine aq rfl rfl (Zf (N:=N) (vs:=[.slice Ac c.length cc]) (ls:=[c]) (hp.le hle) (g5 _ _ _ _ _ _) rfl (.cons (hc.le (fu N) hle) (Yu _ _))) ?_;rintro v2 H2 ⟨e2,b2,rfl,cD⟩;rw[e2]
 cases b2
 ·
  skip
  refine aa 13 rfl (ab [4] ?_);refine ar ⟨.inr rfl,_,.tmp rfl (.nil),?_⟩;exact⟨hle,false,rfl,fun h=>by cases h⟩
 ·
  skip
  refine aa 2 rfl (aq rfl rfl (Zg (hp.le hle)) ?_);rintro v3 H3 ⟨e3,b3,rfl,fY⟩;rw[e3]
  cases b3
  ·
   skip
   refine aa 10 rfl (ab [4] ?_);refine ar ⟨.inr rfl,_,.tmp rfl (.nil),?_⟩;exact⟨hle,false,rfl,fun h=>by cases h⟩
  skip
  refine aa 10 rfl (ab [4] ?_);refine ar ⟨.inr rfl,_,.tmp rfl (.nil),?_⟩;exact⟨hle,_,rfl,fun h=>⟨(cD rfl).1,(cD rfl).2.1.head,fY.1 rfl,by simpa [Int.natCast_inj]using h⟩⟩
end Go.au
