/- Walks over package amortcostref22: SameRats, SameProgram, for what is the same. -/
import Derived.Test.YtgjimcieaecdkaaGreatA10
import Derived.Test.YtgjimcieaecdkaaGreatGrw2
import Derived.Test.YtgjimcieaecdkaaGreatChk1
set_option linter.unusedVariables false
namespace Go.ar
open Go.Proofs Num Lp
theorem F9{H:Heap}{av bv:Value}{l:List Rat}{N:Nat}(ha:aH (bJ N) 3 H av l)(hb:aH (bJ N) 3 H bv l)(hl:l.length≤4611686018427387904)(hN:(N:Int)≤549755813888):
 Fn Tryz.prog 15 #[av,bv] H (fun v H'=>Heap.le H H'∧v = .bool true):=by
 obtain⟨A,ca,xa,rfl,hca,KK,KL⟩:=ha
 obtain⟨B,cb,xb,rfl,xS,lR,qF⟩:=hb;refine aW (args:=[_,_]) Tryz.func15 rfl rfl Tryz.ntmps15 rfl rfl fun w0=> ?_;refine aj [0,1] rfl ?_;refine af (ab 1 rfl (ae [0,1] ?_));refine aq (af (ab 5 rfl (ae [0,1,10] ?_)));refine az rfl (fun hb=> ?_) (fun hb=> ?_)
 ·
  simp at hb
 ·
  skip
  refine ax (aj [0,1] rfl ?_);refine aq (af (ab 3 rfl (ae [0,1,12,13] ?_)));refine aD (gj (fun(i:Nat)=>l.length-i) (fun(i:Nat)=>put (put (put (put (emp) 0 (.val (.slice A l.length ca))) 1 (.val (.slice B l.length cb))) 12 (.val (.int .i64 (l.length:Int)))) 13 (.val (.int .i64 (i:Int)))) (fun(i:Nat) H'=>Heap.le H H'∧i≤l.length) 0 (⟨.refl _,Nat.zero_le _⟩) ay ?_);rintro i H1 ⟨h1,hi⟩;refine af (ab 1 rfl (ae [0,1,12,13,14] ?_));refine aq (az rfl (fun hb=> ?_) (fun hb=> ?_))
  ·
   have lJ:i<l.length:=by simpa using hb
   obtain⟨q,hq⟩:∃q,l[i]? = some q:=⟨_,List.getElem?_eq_getElem lJ⟩;obtain⟨f1,A1,k1,c1,A2,k2,c2,im,Cl,dD⟩:=aH.qq KL hq;obtain⟨f3,A3,k3,c3,A4,k4,c4,AQ,KM,eW⟩:=aH.qq qF hq;refine ax (aj [0,1,12,13] rfl ?_);refine aq (aD (af (ab 2 rfl (ae [0,1,5,12,13] ?_))));refine cg .bR [0,1,2,3,4,5,6,7,8,9] follows (by kernel_rfl) ?_;refine ab 2 rfl (cS (vs:=[.bool f1,.slice A1 k1 c1,.slice A2 k2 c2]) ag rfl rfl rfl rfl (KK.le h1) rfl (by decide) dD (by omega) (by omega) fun _=>(ab 2 rfl (cS (vs:=[.bool f3,.slice A3 k3 c3,.slice A4 k4 c4]) ag rfl rfl rfl rfl (lR.le h1) rfl (by decide) eW (by omega) (by omega) fun _=>(aT rfl rfl ((Pm (N:=N) (Cl.le h1) (KM.le h1) (by omega)).mono fun v H' h=>(⟨h.1,by rw[h.2,aa0]⟩:Heap.le H1 H'∧v = .int .i64 0)) (fun _ _ h=>by first | exact h.le | exact h.1) ?_))));rintro _ H2 ⟨ct,rfl⟩;refine ab 1 rfl (ae [0,1,12,13,25] ?_);refine az rfl (fun hb=> ?_) (fun hb=> ?_)
   ·
    simp at hb
   skip
   refine ax (aj [0,1,12,13] rfl ?_);refine aF rfl (aO rfl rfl ⟨by omega,by omega⟩ (ab 1 rfl (aA ?_)));exact⟨i+1,by omega,ay,h1.trans ct,by omega⟩
  skip
  refine bC (aj [] rfl ?_);refine af (ab 1 rfl (ae [4] ?_));refine aw ⟨.inr rfl,_,.tmp rfl (.nil),?_⟩;exact⟨h1,rfl⟩
end Go.ar
