/- Walks over package amortcostref22: SameRats, SameProgram, for what is the same. -/
import Derived.Test.YtfjncmjbhfdnpaaGreatA10
import Derived.Test.YtfjncmjbhfdnpaaGreatGrw2
import Derived.Test.YtfjncmjbhfdnpaaGreatChk1
set_option linter.unusedVariables false
namespace Go.ay
open Go.Proofs Num Lp
theorem Va{H:Heap}{av bv:Value}{l:List Rat}{N:Nat}(ha:aC (aS N) 3 H av l)(hb:aC (aS N) 3 H bv l)(hl:l.length≤4611686018427387904)(hN:(N:Int)≤549755813888):
 Fn Tryz.prog 19 #[av,bv] H (fun v H'=>Heap.le H H'∧v = .bool true):=by
 obtain⟨A,ca,xa,rfl,hca,hra,hxa⟩:=ha
 obtain⟨B,cb,xb,rfl,DL,pY,qE⟩:=hb;refine aU (args:=[_,_]) Tryz.func19 rfl rfl Tryz.ntmps19 rfl rfl fun w0=> ?_;refine ag [0,1] rfl ?_;refine ae ?_;refine vr 1 ?_;refine ab [0,1] ?_;refine al ?_;refine ae ?_;refine vr 5 ?_;refine ab [0,1,10] ?_;refine az rfl (fun hb=> ?_) (fun hb=> ?_)
 ·
  simp at hb
 ·
  skip
  refine aw ?_;refine ag [0,1] rfl ?_;refine al ?_;refine ae ?_;refine vr 3 ?_;refine ab [0,1,12,13] ?_;refine aD ?_;refine ft (fun(i:Nat)=>l.length-i) (fun(i:Nat)=>put (put (put (put (emp) 0 (.val (.slice A l.length ca))) 1 (.val (.slice B l.length cb))) 12 (.val (.int .i64 (l.length:Int)))) 13 (.val (.int .i64 (i:Int)))) (fun(i:Nat) H'=>Heap.le H H'∧i≤l.length) 0 (⟨.refl _,Nat.zero_le _⟩) au ?_;rintro i H1 ⟨h1,hi⟩;refine ae ?_;refine vr 1 ?_;refine ab [0,1,12,13,14] ?_;refine al ?_;refine az rfl (fun hb=> ?_) (fun hb=> ?_)
  ·
   have mx:i<l.length:=by simpa using hb
   obtain⟨q,hq⟩:∃q,l[i]? = some q:=⟨_,List.getElem?_eq_getElem mx⟩;obtain⟨f1,A1,k1,c1,A2,k2,c2,fw,FY,ee⟩:=aC.jP hxa hq;obtain⟨f3,A3,k3,c3,A4,k4,c4,jN,afG,ic⟩:=aC.jP qE hq;refine aw ?_;refine ag [0,1,12,13] rfl ?_;refine al ?_;refine aD ?_;refine ae ?_;refine vr 2 ?_;refine ab [0,1,5,12,13] ?_;refine bL .bn [0,1,2,3,4,5,6,7,8,9] follows (by kernel_rfl) ?_;refine vr 2 ?_;refine cI (vs:=[.bool f1,.slice A1 k1 c1,.slice A2 k2 c2]) af rfl rfl rfl rfl (hra.le h1) rfl (by decide) ee (by omega) (by omega) fun _=> ?_;refine vr 2 ?_;refine cI (vs:=[.bool f3,.slice A3 k3 c3,.slice A4 k4 c4]) af rfl rfl rfl rfl (pY.le h1) rfl (by decide) ic (by omega) (by omega) fun _=> ?_;refine aH rfl rfl ((EA (N:=N) (FY.le h1) (afG.le h1) (by omega)).mono fun v H' h=>(⟨h.1,by rw[h.2,ad0]⟩:Heap.le H1 H'∧v = .int .i64 0)) (fun _ _ h=>by first | exact h.le | exact h.1) ?_;rintro _ H2 ⟨aM,rfl⟩;refine vr 1 ?_;refine ab [0,1,12,13,25] ?_;refine az rfl (fun hb=> ?_) (fun hb=> ?_)
   ·
    simp at hb
   ·
    skip
    refine aw ?_;refine ag [0,1,12,13] rfl ?_;refine aE rfl ?_;refine aN rfl rfl ⟨by omega,by omega⟩ ?_;refine vr 1 ?_;refine aA ?_;exact⟨i+1,by omega,au,h1.trans aM,by omega⟩
  ·
   skip
   refine bB ?_;refine ag [] rfl ?_;refine ae ?_;refine vr 1 ?_;refine ab [4] ?_;refine aq ⟨.inr rfl,_,.tmp rfl (.nil),?_⟩;exact⟨h1,rfl⟩
end Go.ay
