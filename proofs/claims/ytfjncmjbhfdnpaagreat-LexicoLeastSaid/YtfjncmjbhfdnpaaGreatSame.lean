/- Walks over package amortcostref22: SameRats, SameProgram, for what is the same. -/
import Derived.Test.YtfjncmjbhfdnpaaGreatA14
set_option linter.unusedVariables false
namespace Go.au
open Go.Proofs Num Lp
theorem Uu{H:Heap}{av bv:Value}{l:List Rat}{N:Nat}(ha:aR (bN N) 3 H av l)(hb:aR (bN N) 3 H bv l)(hl:l.length≤4611686018427387904)(hN:(N:Int)≤549755813888):
 Fn Tryz.prog 19 #[av,bv] H (fun v H'=>Heap.le H H'∧v = .bool true):=by
 obtain⟨A,ca,xa,rfl,hca,hra,hxa⟩:=ha
 obtain⟨B,cb,xb,rfl,GJ,fV,Al⟩:=hb;refine a7 (args:=[_,_]) Tryz.func19 rfl rfl Tryz.ntmps19 rfl rfl fun w0=> ?_;refine aj [0,1] rfl ?_;refine ag (ab 1 rfl (ae [0,1] ?_));refine ao (ag (ab 5 rfl (ae [0,1,10] ?_)));refine aC rfl (fun hb=> ?_) (fun hb=> ?_)
 ·
  simp at hb
 ·
  skip
  refine aA (aj [0,1] rfl ?_);refine ao (ag (ab 3 rfl (ae [0,1,12,13] ?_)));refine aF (gG (fun(i:Nat)=>l.length-i) (fun(i:Nat)=>put (put (put (put (emp) 0 (.val (.slice A l.length ca))) 1 (.val (.slice B l.length cb))) 12 (.val (.int .i64 (l.length:Int)))) 13 (.val (.int .i64 (i:Int)))) (fun(i:Nat) H'=>Heap.le H H'∧i≤l.length) 0 (⟨.refl _,Nat.zero_le _⟩) ar ?_);rintro i H1 ⟨h1,hi⟩;refine ag (ab 1 rfl (ae [0,1,12,13,14] ?_));refine ao (aC rfl (fun hb=> ?_) (fun hb=> ?_))
  ·
   have m6:i<l.length:=by simpa using hb
   obtain⟨q,hq⟩:∃q,l[i]? = some q:=⟨_,List.getElem?_eq_getElem m6⟩;obtain⟨f1,A1,k1,c1,A2,k2,c2,lR,UE,eV⟩:=aR.qW hxa hq;obtain⟨f3,A3,k3,c3,A4,k4,c4,LJ,aml,gA⟩:=aR.qW Al hq;refine aA (aj [0,1,12,13] rfl ?_);refine ao (aF (ag (ab 2 rfl (ae [0,1,5,12,13] ?_))));refine bO .bL [0,1,2,3,4,5,6,7,8,9] follows (by kernel_rfl) ?_;refine ab 2 rfl (ck (vs:=[.bool f1,.slice A1 k1 c1,.slice A2 k2 c2]) ah rfl rfl rfl rfl (hra.le h1) rfl (by decide) eV (by omega) (by omega) fun _=>(ab 2 rfl (ck (vs:=[.bool f3,.slice A3 k3 c3,.slice A4 k4 c4]) ah rfl rfl rfl rfl (fV.le h1) rfl (by decide) gA (by omega) (by omega) fun _=>(bm rfl rfl ((Yk (N:=N) (UE.le h1) (aml.le h1) (by omega)).mono fun v H' h=>(⟨h.1,by rw[h.2,aiO]⟩:Heap.le H1 H'∧v = .int .i64 0)) (fun _ _ h=>by first | exact h.le | exact h.1) ?_))));rintro _ H2 ⟨dG,rfl⟩;refine ab 1 rfl (ae [0,1,12,13,25] ?_);refine aC rfl (fun hb=> ?_) (fun hb=> ?_)
   ·
    simp at hb
   skip
   refine aA (aj [0,1,12,13] rfl ?_);refine aB rfl (aG rfl rfl ⟨by omega,by omega⟩ (ab 1 rfl (aw ?_)));exact⟨i+1,by omega,ar,h1.trans dG,by omega⟩
  skip
  refine aV (aj [] rfl ?_);refine ag (ab 1 rfl (ae [4] ?_));refine aD ⟨.inr rfl,_,.tmp rfl (.nil),?_⟩;exact⟨h1,rfl⟩
end Go.au
