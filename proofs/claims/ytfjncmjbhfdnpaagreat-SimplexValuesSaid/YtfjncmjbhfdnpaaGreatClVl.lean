/- The statement SimplexValuesSaid: for every input the law returns true, and every argument reads behind the call as it read before. No condition. -/
import Derived.Test.YtfjncmjbhfdnpaaGreatA15
import Derived.Test.YtfjncmjbhfdnpaaGreatVl
import Derived.Test.YtfjncmjbhfdnpaaGreatRows
import Derived.WalkKit
import Derived.ProofKit
import Derived.OpenShut
import Derived.ChangeOld
import Derived.Below
namespace Go.Proofs.YtfjncmjbhfdnpaaGreat.Z4
open Go.ChangeShapes Go.WideShapes Go.ChangeAt Go.RowKit Go.ar Lp
set_option linter.unusedVariables false
theorem own:ownKnob Tryz.prog.godebug=none:=by kernel_rfl
theorem laidOut:laidOutB Tryz.prog=true:=by kernel_rfl
theorem walk(v0 v1:Value)(w:World)(h0:∃p,eJ maxLen (jG w) v0 p)(h1:∃l,aR (ck maxLen) 3 (jG w) v1 l):
  Calls Tryz.prog 3 #[v0,v1] w fun e w'=>e = .returned (.bool true)∧Below w.heap.size w w':=by
 obtain⟨x0,k0⟩:=h0
 obtain⟨x1,k1⟩:=h1
 exact Fn.law (ajr k0 k1)
set_option maxRecDepth 100000 in
theorem lifted(os:Os)(started:os.Started)(H:Type)(enc:TypeId×Value→H):
  ReturnsInHanded {} Tryz.checked os 3 .any (Rows.simplexValuesSpec.pre6 enc Tryz.prog Tryz.f3 Rows.simplexValuesRow.domain false) (Rows.simplexValuesSpec.post enc Tryz.prog Tryz.f3 false true false false):=by
 refine returnsInHanded_of_change (C:=Tryz.checked) own started (by kernel_rfl) Tryz.func3
  (ChangeSpec.witness6 (enc:=enc) (C:=Tryz.checked) false ⟨#[],#[.agg #[.slice none 0 0,.slice none 0 0],.slice none 0 0],[]⟩ 8 (by kernel_rfl) (by kernel_rfl) (by kernel_rfl) (by kernel_rfl)) ?_
 intro W base args ds gs before Z5 hW alw _
 have xU:∀(j:Nat) t v,Tryz.f3.params[j]? = some t→args[j]? = some v→Value.okWide Tryz.prog W .any base t v:=Z5
 have hW':=hW
 obtain⟨p,q,Z6,hV,rfl,qN,dJ⟩:=hW
 have hA:DataW.TrodAll enc Tryz.prog W 0 (fun _=>true) true Tryz.f3.params.toList args.toList ds p:=Z6
 rw[Tryz.params3]at hA xU
 obtain⟨v0,vs0,d0,ds0,p0,q0,D3,rfl,rfl,h0,r0⟩:=trodAll_cons hA
 obtain⟨v1,E4,d1,ds1,p1,q1,rfl,rfl,rfl,h1,r1⟩:=trodAll_cons r0
 obtain⟨rfl,rfl,rfl⟩:=trodAll_nil r1
 obtain rfl:args = #[v0,v1]:=by cases args;simp_all
 obtain⟨rfl,rfl⟩:=trodVars_none hV
 have lt0:∀x∈p0,x.block<W.heap.size:=by obtain⟨m,hm⟩:=h0;exact DataW.trod_lt m _ _ _ hm
 have w0:=ahr (xU 0 25 v0 rfl rfl) h0
 have lt1:∀x∈p1,x.block<W.heap.size:=by obtain⟨m,hm⟩:=h1;exact DataW.trod_lt m _ _ _ hm
 have w1:=ahs (xU 1 26 v1 rfl rfl) h1
 clear Z6 Z5
 refine(walk _ _ W w0 w1).mono fun e W' ⟨he,R7⟩=> ?_
 subst he
 exact⟨_,rfl,_,_,_,[],_,[],hW',trodAll_mk1 (shut_bool Tryz.underlying4 _),(trodAll_cons_mk (Below.trod laidOut (by kernel_rfl) (of_decide_eq_true (by kernel_rfl)) h0 R7 lt0) (trodAll_cons_mk (Below.trod laidOut (by kernel_rfl) (of_decide_eq_true (by kernel_rfl)) h1 R7 lt1) trodAll_mk0)),rfl,R7.frame _,fun h=>by cases h⟩
theorem over:Rows.simplexValuesRow.holds Tryz.pinned (OpenSpec.ofChange Rows.simplexValuesSpec):=
 OpenClaim.holds_of_wide 3 Tryz.f3 rfl rfl rfl rfl rfl rfl rfl ⟨rfl,rfl,rfl,rfl,rfl⟩ rfl rfl rfl rfl rfl (by kernel_rfl) Tryz.func3 (by kernel_rfl)
  (of_decide_eq_true (by kernel_rfl)) (by unfold Func.isWrapper;first | (rw[if_pos (by decide +kernel)];kernel_rfl) | (rw[if_neg (by decide +kernel)];exact⟨rfl,rfl⟩))
  (fun os started H enc _=>lifted os started H enc)
end Go.Proofs.YtfjncmjbhfdnpaaGreat.Z4
namespace Go.Proofs.YtfjncmjbhfdnpaaGreat
theorem simplexValues_holds:Rows.SimplexValuesSaid:=Z4.over
#print axioms simplexValues_holds
end Go.Proofs.YtfjncmjbhfdnpaaGreat
