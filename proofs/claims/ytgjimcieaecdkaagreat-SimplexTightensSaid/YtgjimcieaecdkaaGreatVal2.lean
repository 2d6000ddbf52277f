/- Walks over package amortcostref22: Valid. -/
import Derived.Test.YtgjimcieaecdkaaGreatA10
set_option linter.unusedVariables false
namespace Go.au
open Go.Proofs Num Lp
theorem Zg{H:Heap}{v:Value}{p:Prg}{N:Nat}(hp:dN N H v p):
 Fn Tryz.prog 21 #[v] H (fun v H'=>H'=H∧∃b,v = .bool b∧(b=true↔p.Ok)):=by
 obtain⟨fv,j8,rfl,eu,ew⟩:=hp
 obtain⟨Af,cf,xf,rfl,iR,iS⟩:=eu.one
 obtain⟨Ar,cr,xr,rfl,fy,eW⟩:=ew.row;refine aU (args:=[_]) Tryz.func21 rfl rfl Tryz.ntmps21 rfl rfl fun w0=> ?_;refine ah [0] rfl ?_;refine ae (bR rfl rfl (aa 1 rfl (ab [1] ?_)));refine ao ?_
 by_cases h1:400<(p.free.length:Int)
 ·
  skip
  refine ae (aa 3 rfl (ax true rfl rfl (jU h1) (aa 6 rfl (ab [1,14] ?_))));refine cI rfl (ae (aa 1 rfl (ab [2] ?_)));refine ar ⟨.inr rfl,_,.tmp rfl (.nil),?_⟩;exact⟨rfl,false,rfl,⟨(fun h=>by cases h),(fun h=>by have h8:=h.eZ;have h9:=h.rows;omega)⟩⟩
 ·
  skip
  by_cases h2:800<(p.rows.length:Int)
  ·
   skip
   refine ae (aa 3 rfl (ax false rfl rfl (gD (by omega)) (aa 4 rfl (ax true rfl rfl (jU h2) (aa 1 rfl (ab [1,14] ?_))))));refine cI rfl (ae (aa 1 rfl (ab [2] ?_)));refine ar ⟨.inr rfl,_,.tmp rfl (.nil),?_⟩;exact⟨rfl,false,rfl,⟨(fun h=>by cases h),(fun h=>by have h8:=h.eZ;have h9:=h.rows;omega)⟩⟩
  skip
  refine ae (aa 3 rfl (ax false rfl rfl (gD (by omega)) (aa 4 rfl (ax false rfl rfl (gD (by omega)) (aa 1 rfl (ab [1,14] ?_))))));refine cP rfl (aw (ah [1] rfl ?_));refine ao (ae (aa 4 rfl (ab [1,17,18] ?_)));refine aD (gm (fun(i:Nat)=>p.rows.length-i) (fun(i:Nat)=>put (put (put (emp) 1 (.box [.slice Af p.free.length cf,.slice Ar p.rows.length cr])) 17 (.val (.int .i64 (p.rows.length:Int)))) 18 (.val (.int .i64 (i:Int)))) (fun(i:Nat) H'=>H'=H∧(∀(k:Nat)(r:List Rat×Int×Rat),k<i→p.rows[k]? = some r→F9 p.free.length r)∧i≤p.rows.length) 0 (⟨rfl,(fun k r h=>by omega),Nat.zero_le _⟩) av ?_);rintro i H1 ⟨e1,ec,hi⟩;rw[e1];refine ae (aa 1 rfl (ab [1,17,18,19] ?_));refine ao (az rfl (fun hb=> ?_) (fun hb=> ?_))
  ·
   have dS:i<p.rows.length:=by simpa using hb
   obtain⟨r,hr⟩:∃r,p.rows[i]? = some r:=⟨_,List.getElem?_eq_getElem dS⟩;obtain⟨A0,c0,f,A1,m1,c1,A2,m2,c2,eH,gS⟩:=eW i r hr;refine aw (ah [1,17,18] rfl ?_);refine ao (aD (ae (aa 2 rfl (ab [1,3,17,18] ?_))));refine ae (aa 3 rfl (cQ (vs:=[.slice A0 r.1.length c0,.int .i64 r.2.1,.bool f,.slice A1 m1 c1,.slice A2 m2 c2]) ag rfl rfl rfl rfl fy rfl (by decide) gS (by omega) (by omega) fun _=>(bG ko rfl ?_)));obtain⟨ti,aj,ak⟩:=q7;refine aO (.inl ⟨rfl,rfl⟩) rfl rfl rfl aj ak rfl rfl rfl (ab [1,4,17,18] ?_)
   by_cases h1:r.1.length=p.free.length
   ·
    skip
    by_cases h2:r.2.1<1
    ·
     skip
     refine ae (aa 6 rfl (ax false rfl rfl (la (by omega)) (aa 3 rfl (ax true rfl rfl (mP h2) (aa 6 rfl (ab [1,17,18,42] ?_))))));refine cI rfl (ae (aa 1 rfl (ab [2] ?_)));refine ar ⟨.inr rfl,_,.tmp rfl (.nil),?_⟩;exact⟨rfl,false,rfl,⟨(fun h=>by cases h),(fun h=>by have h9:=(h.row i r hr).2;omega)⟩⟩
    skip
    by_cases h3:3<r.2.1
    ·
     skip
     refine ae (aa 6 rfl (ax false rfl rfl (la (by omega)) (aa 3 rfl (ax false rfl rfl (jx (by omega)) (aa 4 rfl (ax true rfl rfl (jU h3) (aa 1 rfl (ab [1,17,18,42] ?_))))))));refine cI rfl (ae (aa 1 rfl (ab [2] ?_)));refine ar ⟨.inr rfl,_,.tmp rfl (.nil),?_⟩;exact⟨rfl,false,rfl,⟨(fun h=>by cases h),(fun h=>by have h9:=(h.row i r hr).2;omega)⟩⟩
    skip
    refine ae (aa 6 rfl (ax false rfl rfl (la (by omega)) (aa 3 rfl (ax false rfl rfl (jx (by omega)) (aa 4 rfl (ax false rfl rfl (gD (by omega)) (aa 1 rfl (ab [1,17,18,42] ?_))))))));refine cP rfl (aw (ah [1,17,18] rfl ?_));refine aB rfl (aJ rfl rfl ⟨by omega,by omega⟩ (aa 1 rfl (ay ?_)));exact⟨i+1,by omega,av,rfl,(fun k r9 hk iT=>by by_cases h9:k<i;exact ec k r9 h9 iT;(obtain rfl:k=i:=by omega);rw[hr]at iT;cases iT;exact⟨by omega,by omega⟩),by omega⟩
   skip
   refine ae (aa 6 rfl (ax true rfl rfl (kq (by omega)) (aa 10 rfl (ab [1,17,18,42] ?_))));refine cI rfl (ae (aa 1 rfl (ab [2] ?_)));refine ar ⟨.inr rfl,_,.tmp rfl (.nil),?_⟩;exact⟨rfl,false,rfl,⟨(fun h=>by cases h),(fun h=>by have h9:=(h.row i r hr).1;omega)⟩⟩
  have hb:p.rows.length≤i:=by simpa using hb
  refine bA (ah [] rfl ?_);refine ae (aa 1 rfl (ab [2] ?_));refine ar ⟨.inr rfl,_,.tmp rfl (.nil),?_⟩;exact⟨rfl,true,rfl,⟨fun _=>⟨by omega,by omega,fun k r hr=>ec k r (by have h9:=(List.getElem?_eq_some_iff.1 hr).1;omega) hr⟩,fun _=>rfl⟩⟩
end Go.au
