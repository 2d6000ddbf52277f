/- Walks over package amortcostref22: Valid. -/
import Derived.Test.YtfjncmjbhfdnpaaGreatA10
set_option linter.unusedVariables false
namespace Go.ay
open Go.Proofs Num Lp
theorem Jh{H:Heap}{v:Value}{p:Prg}{N:Nat}(hp:cN N H v p):
 Fn Tryz.prog 46 #[v] H (fun v H'=>H'=H∧∃b,v = .bool b∧(b=true↔p.Ok)):=by
 obtain⟨fv,fG,rfl,cB,cF⟩:=hp
 obtain⟨Af,cf,xf,rfl,ea,eH⟩:=cB.one
 obtain⟨Ar,cr,xr,rfl,cL,du⟩:=cF.row;refine aU (args:=[_]) Tryz.func46 rfl rfl Tryz.ntmps46 rfl rfl fun w0=> ?_;refine ag [0] rfl ?_;refine ae ?_;refine bF rfl rfl ?_;refine vr 1 ?_;refine ab [1] ?_;refine al ?_
 by_cases h1:400<(p.free.length:Int)
 ·
  skip
  refine ae ?_;refine vr 3 ?_;refine ax true rfl rfl (iG h1) ?_;refine vr 6 ?_;refine ab [1,14] ?_;refine cD rfl ?_;refine ae ?_;refine vr 1 ?_;refine ab [2] ?_;refine aq ⟨.inr rfl,_,.tmp rfl (.nil),?_⟩;exact⟨rfl,false,rfl,⟨(fun h=>by cases h),(fun h=>by have h8:=h.dR;have h9:=h.rows;omega)⟩⟩
 ·
  skip
  by_cases h2:800<(p.rows.length:Int)
  ·
   skip
   refine ae ?_;refine vr 3 ?_;refine ax false rfl rfl (fN (by omega)) ?_;refine vr 4 ?_;refine ax true rfl rfl (iG h2) ?_;refine vr 1 ?_;refine ab [1,14] ?_;refine cD rfl ?_;refine ae ?_;refine vr 1 ?_;refine ab [2] ?_;refine aq ⟨.inr rfl,_,.tmp rfl (.nil),?_⟩;exact⟨rfl,false,rfl,⟨(fun h=>by cases h),(fun h=>by have h8:=h.dR;have h9:=h.rows;omega)⟩⟩
  ·
   skip
   refine ae ?_;refine vr 3 ?_;refine ax false rfl rfl (fN (by omega)) ?_;refine vr 4 ?_;refine ax false rfl rfl (fN (by omega)) ?_;refine vr 1 ?_;refine ab [1,14] ?_;refine dg rfl ?_;refine aw ?_;refine ag [1] rfl ?_;refine al ?_;refine ae ?_;refine vr 4 ?_;refine ab [1,17,18] ?_;refine aD ?_;refine ft (fun(i:Nat)=>p.rows.length-i) (fun(i:Nat)=>put (put (put (emp) 1 (.box [.slice Af p.free.length cf,.slice Ar p.rows.length cr])) 17 (.val (.int .i64 (p.rows.length:Int)))) 18 (.val (.int .i64 (i:Int)))) (fun(i:Nat) H'=>H'=H∧(∀(k:Nat)(r:List Rat×Int×Rat),k<i→p.rows[k]? = some r→Lq p.free.length r)∧i≤p.rows.length) 0 (⟨rfl,(fun k r h=>by omega),Nat.zero_le _⟩) au ?_;rintro i H1 ⟨e1,cO,hi⟩;rw[e1];refine ae ?_;refine vr 1 ?_;refine ab [1,17,18,19] ?_;refine al ?_;refine az rfl (fun hb=> ?_) (fun hb=> ?_)
   ·
    have cQ:i<p.rows.length:=by simpa using hb
    obtain⟨r,hr⟩:∃r,p.rows[i]? = some r:=⟨_,List.getElem?_eq_getElem cQ⟩;obtain⟨A0,c0,f,A1,m1,c1,A2,m2,c2,fU,dL⟩:=du i r hr;refine aw ?_;refine ag [1,17,18] rfl ?_;refine al ?_;refine aD ?_;refine ae ?_;refine vr 2 ?_;refine ab [1,3,17,18] ?_;refine ae ?_;refine vr 3 ?_;refine cI (vs:=[.slice A0 r.1.length c0,.int .i64 r.2.1,.bool f,.slice A1 m1 c1,.slice A2 m2 c2]) af rfl rfl rfl rfl cL rfl (by decide) dL (by omega) (by omega) fun _=> ?_;refine bh gY rfl ?_;obtain⟨ti,aj,ak⟩:=rU;refine aG (.inl ⟨rfl,rfl⟩) rfl rfl rfl aj ak rfl rfl rfl ?_;refine ab [1,4,17,18] ?_
    by_cases h1:r.1.length=p.free.length
    ·
     skip
     by_cases h2:r.2.1<1
     ·
      skip
      refine ae ?_;refine vr 6 ?_;refine ax false rfl rfl (ko (by omega)) ?_;refine vr 3 ?_;refine ax true rfl rfl (mA h2) ?_;refine vr 6 ?_;refine ab [1,17,18,42] ?_;refine cD rfl ?_;refine ae ?_;refine vr 1 ?_;refine ab [2] ?_;refine aq ⟨.inr rfl,_,.tmp rfl (.nil),?_⟩;exact⟨rfl,false,rfl,⟨(fun h=>by cases h),(fun h=>by have h9:=(h.row i r hr).2;omega)⟩⟩
     ·
      skip
      by_cases h3:3<r.2.1
      ·
       skip
       refine ae ?_;refine vr 6 ?_;refine ax false rfl rfl (ko (by omega)) ?_;refine vr 3 ?_;refine ax false rfl rfl (jw (by omega)) ?_;refine vr 4 ?_;refine ax true rfl rfl (iG h3) ?_;refine vr 1 ?_;refine ab [1,17,18,42] ?_;refine cD rfl ?_;refine ae ?_;refine vr 1 ?_;refine ab [2] ?_;refine aq ⟨.inr rfl,_,.tmp rfl (.nil),?_⟩;exact⟨rfl,false,rfl,⟨(fun h=>by cases h),(fun h=>by have h9:=(h.row i r hr).2;omega)⟩⟩
      ·
       skip
       refine ae ?_;refine vr 6 ?_;refine ax false rfl rfl (ko (by omega)) ?_;refine vr 3 ?_;refine ax false rfl rfl (jw (by omega)) ?_;refine vr 4 ?_;refine ax false rfl rfl (fN (by omega)) ?_;refine vr 1 ?_;refine ab [1,17,18,42] ?_;refine dg rfl ?_;refine aw ?_;refine ag [1,17,18] rfl ?_;refine aE rfl ?_;refine aN rfl rfl ⟨by omega,by omega⟩ ?_;refine vr 1 ?_;refine aA ?_;exact⟨i+1,by omega,au,rfl,(fun k r9 hk j9=>by by_cases h9:k<i;exact cO k r9 h9 j9;(obtain rfl:k=i:=by omega);rw[hr]at j9;cases j9;exact⟨by omega,by omega⟩),by omega⟩
    ·
     skip
     refine ae ?_;refine vr 6 ?_;refine ax true rfl rfl (kn (by omega)) ?_;refine vr 10 ?_;refine ab [1,17,18,42] ?_;refine cD rfl ?_;refine ae ?_;refine vr 1 ?_;refine ab [2] ?_;refine aq ⟨.inr rfl,_,.tmp rfl (.nil),?_⟩;exact⟨rfl,false,rfl,⟨(fun h=>by cases h),(fun h=>by have h9:=(h.row i r hr).1;omega)⟩⟩
   ·
    have hb:p.rows.length≤i:=by simpa using hb
    refine bB ?_;refine ag [] rfl ?_;refine ae ?_;refine vr 1 ?_;refine ab [2] ?_;refine aq ⟨.inr rfl,_,.tmp rfl (.nil),?_⟩;exact⟨rfl,true,rfl,⟨fun _=>⟨by omega,by omega,fun k r hr=>cO k r (by have h9:=(List.getElem?_eq_some_iff.1 hr).1;omega) hr⟩,fun _=>rfl⟩⟩
end Go.ay
