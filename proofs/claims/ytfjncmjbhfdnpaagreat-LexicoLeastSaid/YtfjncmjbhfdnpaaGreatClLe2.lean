/- The statement LexicoLeastSaid: for every input the law returns true, and every argument reads behind the call as it read before. No condition. -/
import Derived.Test.YtfjncmjbhfdnpaaGreatA14
import Derived.Test.YtfjncmjbhfdnpaaGreatLe2
import Derived.Test.YtfjncmjbhfdnpaaGreatRows
import Derived.WalkKit
import Derived.ProofKit
import Derived.OpenShut
import Derived.ChangeOld
import Derived.Below
namespace Go.Proofs.YtfjncmjbhfdnpaaGreat.abw
open Go.ChangeShapes Go.WideShapes Go.ChangeAt Go.RowKit Go.au Lp
set_option linter.unusedVariables false
theorem own:ownKnob Tryz.prog.godebug=none:=by kernel_rfl
theorem laidOut:laidOutB Tryz.prog=true:=by kernel_rfl
theorem walk(v0:Value)(w:World)(h0:∃p,eH maxLen (kz w) v0 p):
  Calls Tryz.prog 6 #[v0] w fun e w'=>e = .returned (.bool true)∧Below w.heap.size w w':=by
 obtain⟨x0,k0⟩:=h0
 exact Fn.law (ak4 k0)
set_option maxRecDepth 100000 in
theorem lifted(os:Os)(started:os.Started)(H:Type)(enc:TypeId×Value→H):
  ReturnsInHanded {} Tryz.checked os 6 .any (Rows.lexicoLeastSpec.pre6 enc Tryz.prog Tryz.f6 Rows.lexicoLeastRow.domain false) (Rows.lexicoLeastSpec.post enc Tryz.prog Tryz.f6 false true false false):=by
 refine returnsInHanded_of_change (C:=Tryz.checked) own started (by kernel_rfl) Tryz.func6
  (ChangeSpec.witness6 (enc:=enc) (C:=Tryz.checked) false ⟨#[],#[.agg #[.slice none 0 0,.slice none 0 0]],[]⟩ 8 (by kernel_rfl) (by kernel_rfl) (by kernel_rfl) (by kernel_rfl)) ?_
 intro W base args ds gs before abx hW anR _
 have vg:∀(j:Nat) t v,Tryz.f6.params[j]? = some t→args[j]? = some v→Value.okWide Tryz.prog W .any base t v:=abx
 have hW':=hW
 obtain⟨p,q,hA0,hV,rfl,oC,dT⟩:=hW
 have hA:DataW.TrodAll enc Tryz.prog W 0 (fun _=>true) true Tryz.f6.params.toList args.toList ds p:=hA0
 rw[Tryz.params6]at hA vg
 obtain⟨v0,vs0,d0,ds0,p0,q0,FD,rfl,rfl,h0,r0⟩:=trodAll_cons hA
 obtain⟨rfl,rfl,rfl⟩:=trodAll_nil r0
 obtain rfl:args = #[v0]:=by cases args;simp_all
 obtain⟨rfl,rfl⟩:=trodVars_none hV
 have lt0:∀x∈p0,x.block<W.heap.size:=by obtain⟨m,hm⟩:=h0;exact DataW.trod_lt m _ _ _ hm
 have w0:=ai0 (vg 0 25 v0 rfl rfl) h0
 clear hA0 abx
 refine(walk _ W w0).mono fun e W' ⟨he,bel⟩=> ?_
 subst he
 exact⟨_,rfl,_,_,_,[],_,[],hW',trodAll_mk1 (shut_bool Tryz.underlying4 _),(trodAll_cons_mk (Below.trod laidOut (by kernel_rfl) (of_decide_eq_true (by kernel_rfl)) h0 bel lt0) trodAll_mk0),rfl,bel.frame _,fun h=>by cases h⟩
theorem over:Rows.lexicoLeastRow.holds Tryz.pinned (OpenSpec.ofChange Rows.lexicoLeastSpec):=
 OpenClaim.holds_of_wide 6 Tryz.f6 rfl rfl rfl rfl rfl rfl rfl ⟨rfl,rfl,rfl,rfl,rfl⟩ rfl rfl rfl rfl rfl (by kernel_rfl) Tryz.func6 (by kernel_rfl)
  (of_decide_eq_true (by kernel_rfl)) (by unfold Func.isWrapper;first | (rw[if_pos (by decide +kernel)];kernel_rfl) | (rw[if_neg (by decide +kernel)];exact⟨rfl,rfl⟩))
  (fun os started H enc _=>lifted os started H enc)
end Go.Proofs.YtfjncmjbhfdnpaaGreat.abw
namespace Go.Proofs.YtfjncmjbhfdnpaaGreat
theorem lexicoLeast_holds:Rows.LexicoLeastSaid:=abw.over
#print axioms lexicoLeast_holds
end Go.Proofs.YtfjncmjbhfdnpaaGreat
