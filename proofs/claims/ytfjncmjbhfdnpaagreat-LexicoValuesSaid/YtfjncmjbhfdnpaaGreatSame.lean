/- Walks over package amortcostref22: SameRats, SameProgram, for what is the same. -/
import Derived.Test.YtfjncmjbhfdnpaaGreatA14
set_option linter.unusedVariables false
namespace Go.aw
open Go.Proofs Num Lp
theorem Uu{H:Heap}{av bv:Value}{l:List Rat}{N:Nat}(ha:aR (bR N) 3 H av l)(hb:aR (bR N) 3 H bv l)(hl:l.length≤4611686018427387904)(hN:(N:Int)≤549755813888):
 Fn Tryz.prog 19 #[av,bv] H (fun v H'=>Heap.le H H'∧v = .bool true):=by
 obtain⟨A,ca,xa,rfl,hca,hra,hxa⟩:=ha
 obtain⟨B,cb,xb,rfl,G6,fY,AE⟩:=hb;refine aZ (args:=[_,_]) Tryz.func19 rfl rfl Tryz.ntmps19 rfl rfl fun w0=> ?_;refine aj [0,1] rfl ?_;refine ag (ab 1 rfl (ae [0,1] ?_));refine aq (ag (ab 5 rfl (ae [0,1,10] ?_)));refine aD rfl (fun hb=> ?_) (fun hb=> ?_)
 ·
  simp at hb
 ·
  skip
  refine aA (aj [0,1] rfl ?_);refine aq (ag (ab 3 rfl (ae [0,1,12,13] ?_)));refine aG (gK (fun(i:Nat)=>l.length-i) (fun(i:Nat)=>put (put (put (put (emp) 0 (.val (.slice A l.length ca))) 1 (.val (.slice B l.length cb))) 12 (.val (.int .i64 (l.length:Int)))) 13 (.val (.int .i64 (i:Int)))) (fun(i:Nat) H'=>Heap.le H H'∧i≤l.length) 0 (⟨.refl _,Nat.zero_le _⟩) au ?_);rintro i H1 ⟨h1,hi⟩;refine ag (ab 1 rfl (ae [0,1,12,13,14] ?_));refine aq (aD rfl (fun hb=> ?_) (fun hb=> ?_))
  ·
   have lZ:i<l.length:=by simpa using hb
   obtain⟨q,hq⟩:∃q,l[i]? = some q:=⟨_,List.getElem?_eq_getElem lZ⟩;obtain⟨f1,A1,k1,c1,A2,k2,c2,lE,J3,eP⟩:=aR.pI hxa hq;obtain⟨f3,A3,k3,c3,A4,k4,c4,LO,amh,gD⟩:=aR.pI AE hq;refine aA (aj [0,1,12,13] rfl ?_);refine aq (aG (ag (ab 2 rfl (ae [0,1,5,12,13] ?_))));refine bP .bJ [0,1,2,3,4,5,6,7,8,9] follows (by kernel_rfl) ?_;refine ab 2 rfl (ck (vs:=[.bool f1,.slice A1 k1 c1,.slice A2 k2 c2]) ah rfl rfl rfl rfl (hra.le h1) rfl (by decide) eP (by omega) (by omega) fun _=>(ab 2 rfl (ck (vs:=[.bool f3,.slice A3 k3 c3,.slice A4 k4 c4]) ah rfl rfl rfl rfl (fY.le h1) rfl (by decide) gD (by omega) (by omega) fun _=>(a8 rfl rfl ((Yh (N:=N) (J3.le h1) (amh.le h1) (by omega)).mono fun v H' h=>(⟨h.1,by rw[h.2,aiO]⟩:Heap.le H1 H'∧v = .int .i64 0)) (fun _ _ h=>by first | exact h.le | exact h.1) ?_))));rintro _ H2 ⟨dC,rfl⟩;refine ab 1 rfl (ae [0,1,12,13,25] ?_);refine aD rfl (fun hb=> ?_) (fun hb=> ?_)
   ·
    simp at hb
   skip
   refine aA (aj [0,1,12,13] rfl ?_);refine aC rfl (aH rfl rfl ⟨by omega,by omega⟩ (ab 1 rfl (az ?_)));exact⟨i+1,by omega,au,h1.trans dC,by omega⟩
  skip
  refine aW (aj [] rfl ?_);refine ag (ab 1 rfl (ae [4] ?_));refine aE ⟨.inr rfl,_,.tmp rfl (.nil),?_⟩;exact⟨h1,rfl⟩
end Go.aw
