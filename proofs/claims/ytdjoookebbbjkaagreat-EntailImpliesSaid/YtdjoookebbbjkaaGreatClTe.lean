/- The statement EntailImpliesSaid: for every input the law returns true, and every argument reads behind the call as it read before. No condition. -/
import Derived.Test.YtdjoookebbbjkaaGreatA17
import Derived.Test.YtdjoookebbbjkaaGreatBr4
import Derived.Test.YtdjoookebbbjkaaGreatRows
import Derived.WalkKit
import Derived.ProofKit
import Derived.OpenShut
import Derived.ChangeOld
import Derived.Below
namespace Go.Proofs.YtdjoookebbbjkaaGreat.acj
open Go.ChangeShapes Go.WideShapes Go.ChangeAt Go.RowKit Go.aq Lp
set_option linter.unusedVariables false
theorem own:ownKnob Tryz.prog.godebug=none:=by kernel_rfl
theorem laidOut:laidOutB Tryz.prog=true:=by kernel_rfl
theorem walk(v0 v1:Value)(w:World)(h0:∃fs,kn (kN w) v0 fs)(h1:∃(f:aJ)(A:Option Addr)(c:Nat),v1 = .agg #[.int .i64 f.c,.slice A f.ts.length c]∧aN gX 2 (kN w) (.slice A f.ts.length c) f.ts):
  Calls Tryz.prog 3 #[v0,v1] w fun e w'=>e = .returned (.bool true)∧Below w.heap.size w w':=by
 obtain⟨x0,k0⟩:=h0
 obtain⟨f1,A1,c1,rfl,k1⟩:=h1
 exact Fn.law (amD k0 k1)
set_option maxRecDepth 100000 in
theorem lifted(os:Os)(started:os.Started)(H:Type)(enc:TypeId×Value→H):
  ReturnsInHanded {} Tryz.checked os 3 .any (Rows.entailImpliesSpec.pre6 enc Tryz.prog Tryz.f3 Rows.entailImpliesRow.domain false) (Rows.entailImpliesSpec.post enc Tryz.prog Tryz.f3 false true false false):=by
 refine returnsInHanded_of_change (C:=Tryz.checked) own started (by kernel_rfl) Tryz.func3
  (ChangeSpec.witness6 (enc:=enc) (C:=Tryz.checked) false ⟨#[],#[.slice none 0 0,.agg #[.int .i64 0,.slice none 0 0]],[]⟩ 8 (by kernel_rfl) (by kernel_rfl) (by kernel_rfl) (by kernel_rfl)) ?_
 intro W base args ds gs before ack hW aoi _
 have Bg:∀(j:Nat) t v,Tryz.f3.params[j]? = some t→args[j]? = some v→Value.okWide Tryz.prog W .any base t v:=ack
 have hW':=hW
 obtain⟨p,q,hA0,hV,rfl,pC,dW⟩:=hW
 have hA:DataW.TrodAll enc Tryz.prog W 0 (fun _=>true) true Tryz.f3.params.toList args.toList ds p:=hA0
 rw[Tryz.params3]at hA Bg
 obtain⟨v0,vs0,d0,ds0,p0,q0,Fu,rfl,rfl,h0,r0⟩:=trodAll_cons hA
 obtain⟨v1,Gr,d1,ds1,p1,q1,rfl,rfl,rfl,h1,r1⟩:=trodAll_cons r0
 obtain⟨rfl,rfl,rfl⟩:=trodAll_nil r1
 obtain rfl:args = #[v0,v1]:=by cases args;simp_all
 obtain⟨rfl,rfl⟩:=trodVars_none hV
 have lt0:∀x∈p0,x.block<W.heap.size:=by obtain⟨m,hm⟩:=h0;exact DataW.trod_lt m _ _ _ hm
 have w0:=amH (Bg 0 22 v0 rfl rfl) h0
 replace w0:∃fs,kn (kN W) v0 fs:=let ⟨x,k,_⟩:=w0;⟨x,k⟩
 have lt1:∀x∈p1,x.block<W.heap.size:=by obtain⟨m,hm⟩:=h1;exact DataW.trod_lt m _ _ _ hm
 have w1:=amG (Bg 1 25 v1 rfl rfl) h1
 clear hA0 ack
 refine(walk _ _ W w0 w1).mono fun e W' ⟨he,Ul⟩=> ?_
 subst he
 exact⟨_,rfl,_,_,_,[],_,[],hW',trodAll_mk1 (shut_bool Tryz.underlying4 _),(trodAll_cons_mk (Below.trod laidOut (by kernel_rfl) (of_decide_eq_true (by kernel_rfl)) h0 Ul lt0) (trodAll_cons_mk (Below.trod laidOut (by kernel_rfl) (of_decide_eq_true (by kernel_rfl)) h1 Ul lt1) trodAll_mk0)),rfl,Ul.frame _,fun h=>by cases h⟩
theorem amI:Rows.entailImpliesRow.holds Tryz.pinned (OpenSpec.ofChange Rows.entailImpliesSpec):=
 OpenClaim.holds_of_wide 3 Tryz.f3 rfl rfl rfl rfl rfl rfl rfl ⟨rfl,rfl,rfl,rfl,rfl⟩ rfl rfl rfl rfl rfl (by kernel_rfl) Tryz.func3 (by kernel_rfl)
  (of_decide_eq_true (by kernel_rfl)) (by unfold Func.isWrapper;first | (rw[if_pos (by decide +kernel)];kernel_rfl) | (rw[if_neg (by decide +kernel)];exact⟨rfl,rfl⟩))
  (fun os started H enc _=>lifted os started H enc)
end Go.Proofs.YtdjoookebbbjkaaGreat.acj
namespace Go.Proofs.YtdjoookebbbjkaaGreat
theorem entailImplies_holds:Rows.EntailImpliesSaid:=acj.amI
#print axioms entailImplies_holds
end Go.Proofs.YtdjoookebbbjkaaGreat
