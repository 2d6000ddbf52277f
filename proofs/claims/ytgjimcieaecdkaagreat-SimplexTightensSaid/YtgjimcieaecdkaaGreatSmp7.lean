/- Walks over package simplex, simplex.go, part 7: CheckUnbounded. -/
import Derived.Test.YtgjimcieaecdkaaGreatA10
import Derived.Test.YtgjimcieaecdkaaGreatSmp6
set_option linter.unusedVariables false
namespace Go.au
open Go.Proofs Num Lp
theorem Z2{H:Heap}{v cv xv rv:Value}{p:Prg}{c x r:List Rat}{N:Nat}(hp:dN N H v p)(hc:aM (ca N) 3 H cv c)(hx:aM (ca N) 3 H xv x)(hr:aM (ca N) 3 H rv r)(jq:(x.length:Int)≤1099511627776)(hN:N≤400000000):
 Fn Tryz.prog 58 #[v,cv,xv,rv] H (fun v H'=>Heap.le H H'∧∃b,v = .bool b∧(b=true↔CD p c x r)):=by
 obtain⟨fv,j8,rfl,eu,ew⟩:=id hp
 obtain⟨Af,cf,xf,rfl,iR,iS⟩:=eu.one
 obtain⟨Ar,cr,xr,rfl,fy,eW⟩:=ew.row
 obtain⟨Ay,cy,xy,rfl,uX,uY⟩:=hr.rat
 obtain⟨Ac,cc,xc,rfl,IY,IZ⟩:=hc.rat
 obtain⟨Ax,cx,xx,rfl,AR,AS⟩:=hx.rat;refine aU (args:=[_,_,_,_]) Tryz.func58 rfl rfl Tryz.ntmps58 rfl rfl fun w0=> ?_;refine ah [0,1,2,3] rfl ?_;refine ae (bR rfl rfl (aa 1 rfl (ab [1,2,3,4] ?_)));refine ao ?_
 by_cases hf:tL p x
 ·
  skip
  by_cases dJ:c.length=p.free.length
  ·
   skip
   by_cases m5:r.length=p.free.length
   ·
    skip
    refine ae (aa 2 rfl (aq rfl rfl (AV hp hx jq (by omega) hf) ?_));rintro v1 H1 ⟨bC,rfl⟩;refine aa 7 rfl (ax false rfl rfl (la (by omega)) (aa 7 rfl (ax false rfl rfl (la (by omega)) (aa 1 rfl (ab [1,3,4,29] ?_)))));refine cP rfl (aw (ah [1,3,4] rfl ?_));refine ae (aa 1 rfl (aq rfl rfl (o4 (hr.le (fu N) bC) (by omega) (by have h9:=hf.ok.eZ;omega)) ?_));rintro v3 H3 ⟨dH,ui⟩;have kT:=bC.trans dH;have eT:=hf.ok.eZ;refine aa 1 rfl (ab [1,4,9] ?_)
    by_cases hm:p.lp.ft 0 (fn r)
    ·
     skip
     refine bT .bN [0,1,2,3,4,5,7,6,8,9,10,11,12] follows (by kernel_rfl) ?_;refine aa 2 rfl (aI rfl rfl (ln) (fun _ _ h=>by first | exact h.le | exact h.1) ?_);rintro v4 H4 ⟨e4,rfl⟩;rw[e4];refine aI rfl rfl (Fn.yes (IN (t:=0) (M:=N+2) (hp.le kT) hf.ok ui m5 (ll H3 (n:=0) (by decide) (by decide)) (by decide) hr.gT (by omega) (by omega)) hm) (fun _ _ h=>by first | exact h.le | exact h.1) ?_;rintro v5 H5 ⟨cU,rfl⟩;refine aa 3 rfl (aI rfl rfl (o4 (hc.le (fu N) (kT.trans cU)) (by omega) (by omega)) (fun _ _ h=>by first | exact h.le | exact h.1) ?_);rintro v6 H6 ⟨gg,zW⟩;refine aI rfl rfl (CI (s:=N+2) zW (ui.le dT (cU.trans gg)) (by omega) hc.gT hr.gT (by rw[dJ];have h9:((p.free.length:Int)+2)*(2*((N+2:Nat):Int)+2)≤402*(2*((N+2:Nat):Int)+2):=Int.mul_le_mul_of_nonneg_right (by omega) (by omega);omega)) (fun _ _ h=>by first | exact h.le | exact h.1) ?_;rintro _ H7 ⟨gw,ZH,rfl,AT⟩;obtain⟨n7,d7,b7,rfl⟩:=AT.cells;have abu:=sw (M:=N+2) c.length (fn c) (fn r) (fun j hj=>hc.gT _ (my hj)) (fun j hj=>hr.gT _ (my (by omega)));have abv:c.length*(2*(N+2)+2)≤400*(2*(N+2)+2):=Nat.mul_le_mul_right _ (by omega);refine aI rfl rfl (fq AT (by omega)) (fun _ _ h=>by first | exact h.le | exact h.1) ?_;rintro v8 H8 ⟨gG,rfl⟩
     refine aa 3 rfl (ab [8] ?_);refine ar ⟨.inr rfl,_,.tmp rfl (.nil),?_⟩;exact⟨(((kT.trans cU).trans gg).trans gw).trans gG,_,rfl,by simp only[decide_eq_true_eq,wk];rw[dJ];exact⟨fun h=>⟨hf,dJ,m5,⟨hf.meets,hm,h⟩⟩,fun h=>h.cert.neg⟩⟩
    skip
    refine bT .bN [0,1,2,3,4,5,7,6,8,9,10,11,12] follows (by kernel_rfl) ?_;refine aa 2 rfl (aI rfl rfl (ln) (fun _ _ h=>by first | exact h.le | exact h.1) ?_);rintro v4 H4 ⟨e4,rfl⟩;rw[e4];refine aI rfl rfl (Fn.no (IN (t:=0) (M:=N+2) (hp.le kT) hf.ok ui m5 (ll H3 (n:=0) (by decide) (by decide)) (by decide) hr.gT (by omega) (by omega)) hm) (fun _ _ h=>by first | exact h.le | exact h.1) ?_;rintro v5 H5 ⟨cU,rfl⟩;refine aa 9 rfl (ab [8] ?_);refine ar ⟨.inr rfl,_,.tmp rfl (.nil),?_⟩;exact⟨kT.trans cU,false,rfl,⟨(fun h=>by cases h),(fun h=>absurd h.cert.ik hm)⟩⟩
   skip
   refine ae (aa 2 rfl (aq rfl rfl (AV hp hx jq (by omega) hf) ?_));rintro v1 H1 ⟨bC,rfl⟩;refine aa 7 rfl (ax false rfl rfl (la (by omega)) (aa 7 rfl (ax true rfl rfl (kq (by omega)) (aa 1 rfl (ab [1,3,4,29] ?_)))));refine cI rfl (ae (aa 1 rfl (ab [8] ?_)));refine ar ⟨.inr rfl,_,.tmp rfl (.nil),?_⟩;exact⟨bC,false,rfl,⟨(fun h=>by cases h),(fun h=>absurd h.jD m5)⟩⟩
  ·
   skip
   refine ae (aa 2 rfl (aq rfl rfl (AV hp hx jq (by omega) hf) ?_));rintro v1 H1 ⟨bC,rfl⟩;refine aa 7 rfl (ax true rfl rfl (kq (by omega)) (aa 9 rfl (ab [1,3,4,29] ?_)));refine cI rfl (ae (aa 1 rfl (ab [8] ?_)));refine ar ⟨.inr rfl,_,.tmp rfl (.nil),?_⟩;exact⟨bC,false,rfl,⟨(fun h=>by cases h),(fun h=>absurd h.yy dJ)⟩⟩
 ·
  skip
  refine ae (aa 2 rfl (aq rfl rfl (Py hp hx jq (by omega) hf) ?_));rintro v1 H1 ⟨bC,rfl⟩;refine aa 17 rfl (ab [1,3,4,29] ?_);refine cI rfl (ae (aa 1 rfl (ab [8] ?_)));refine ar ⟨.inr rfl,_,.tmp rfl (.nil),?_⟩;exact⟨bC,false,rfl,⟨(fun h=>by cases h),(fun h=>absurd h.ej hf)⟩⟩
end Go.au
