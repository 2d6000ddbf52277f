/- Walks over package amortcostref22: Before. -/
import Derived.Test.YtgjimcieaecdkaaGreatA10
set_option linter.unusedVariables false
namespace Go.ar
open Go.Proofs Num Lp
theorem abg{H:Heap}{av bv:Value}{a b:List Rat}{N:Nat}(ha:aH (bJ N) 3 H av a)(hb:aH (bJ N) 3 H bv b)(iB:a.length≤1000000)(hle:∀(i:Nat)(u w:Rat),a[i]? = some u→b[i]? = some w→(∀j,j<i→a[j]? = b[j]?)→u≤w)(hN:(N:Int)≤549755813888):
 Fn Tryz.prog 14 #[av,bv] H (fun v H'=>Heap.le H H'∧∃z:Int,v = .int .i64 z∧z≤0):=by
 obtain⟨A,ca,xa,rfl,hca,KK,KL⟩:=ha
 obtain⟨B,cb,xb,rfl,xS,lR,qF⟩:=hb;refine aW (args:=[_,_]) Tryz.func14 rfl rfl Tryz.ntmps14 rfl rfl fun w0=> ?_;refine aj [0,1] rfl ?_;refine af (ab 1 rfl (ae [0,1] ?_));refine aq (af (ab 1 rfl (ae [0,1,5] ?_)));refine aD (gj (fun(i:Nat)=>a.length-i) (fun(i:Nat)=>put (put (put (emp) 0 (.val (.slice A a.length ca))) 1 (.val (.slice B b.length cb))) 5 (.val (.int .i64 (i:Int)))) (fun(i:Nat) H'=>Heap.le H H'∧i≤a.length∧∀j,j<i→a[j]? = b[j]?) 0 (⟨.refl _,Nat.zero_le _,fun j h=>by omega⟩) ay ?_);rintro i H1 ⟨h1,hi,heq⟩;refine aq (af (ab 5 rfl (Me rfl rfl (ab 1 rfl (ae [0,1,5,13] ?_)))));refine az rfl (fun hb=> ?_) (fun hb=> ?_)
 ·
  have dZ:(i:Int)<(if (b.length:Int)<(a.length:Int)then(b.length:Int)else(a.length:Int)):=by simpa using hb
  have Rh:i<a.length∧i<b.length:=by split at dZ <;> omega
  obtain⟨u,hu⟩:∃q,a[i]? = some q:=⟨_,List.getElem?_eq_getElem Rh.1⟩;obtain⟨w,hw⟩:∃q,b[i]? = some q:=⟨_,List.getElem?_eq_getElem Rh.2⟩;obtain⟨f1,A1,k1,c1,A2,k2,c2,im,Cl,dD⟩:=aH.qq KL hu;obtain⟨f3,A3,k3,c3,A4,k4,c4,AQ,KM,eW⟩:=aH.qq qF hw;have kz:=hle i u w hu hw heq;refine ax (aj [0,1,5] rfl ?_);refine aq (aD (cg .bR [0,1,2,3,4,5,6,7,8,9] follows (by kernel_rfl) ?_));refine ab 2 rfl (cS (vs:=[.bool f1,.slice A1 k1 c1,.slice A2 k2 c2]) ag rfl rfl rfl rfl (KK.le h1) rfl (by decide) dD (by omega) (by omega) fun _=>(ab 2 rfl (cS (vs:=[.bool f3,.slice A3 k3 c3,.slice A4 k4 c4]) ag rfl rfl rfl rfl (lR.le h1) rfl (by decide) eW (by omega) (by omega) fun _=>(aT rfl rfl (Pm (N:=N) (Cl.le h1) (KM.le h1) (by omega)) (fun _ _ h=>by first | exact h.le | exact h.1) ?_))));rintro _ H2 ⟨ct,rfl⟩;refine ab 1 rfl (ae [0,1,5,6] ?_);refine af (ab 2 rfl (ae [0,1,5,6,26] ?_));refine az rfl (fun hb=> ?_) (fun hb=> ?_)
  ·
   skip
   refine af (ab 2 rfl (ae [4] ?_));refine aw ⟨.inr rfl,_,.tmp rfl (.nil),?_⟩;exact⟨h1.trans ct,_,rfl,aa4.2 kz⟩
  ·
   have h0:u=w:=aa5.1 (by simpa using hb);refine ax (aj [0,1,5] rfl ?_);refine aF rfl (ab 1 rfl (aO rfl rfl ⟨by omega,by omega⟩ (ab 1 rfl (aA ?_))));exact⟨i+1,by omega,ay,h1.trans ct,by omega,fun j hj=>by by_cases h9:j<i;exact heq j h9;(obtain rfl:j=i:=by omega);rw[hu,hw,h0]⟩
 ·
  skip
  refine bC (aj [] rfl ?_);refine af (ab 1 rfl (ae [4] ?_));refine aw ⟨.inr rfl,_,.tmp rfl (.nil),?_⟩;exact⟨h1,0,rfl,Int.le_refl _⟩
end Go.ar
