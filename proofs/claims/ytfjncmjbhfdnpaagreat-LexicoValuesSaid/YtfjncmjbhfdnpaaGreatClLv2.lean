/- The statement LexicoValuesSaid: for every input the law returns true, and every argument reads behind the call as it read before. No condition. -/
import Derived.Test.YtfjncmjbhfdnpaaGreatA14
import Derived.Test.YtfjncmjbhfdnpaaGreatLv2
import Derived.Test.YtfjncmjbhfdnpaaGreatBr3
import Derived.Test.YtfjncmjbhfdnpaaGreatRows
import Derived.WalkKit
import Derived.ProofKit
import Derived.OpenShut
import Derived.ChangeOld
import Derived.Below
namespace Go.Proofs.YtfjncmjbhfdnpaaGreat.abx
open Go.ChangeShapes Go.WideShapes Go.ChangeAt Go.RowKit Go.aw Lp
set_option linter.unusedVariables false
theorem own:ownKnob Tryz.prog.godebug=none:=by kernel_rfl
theorem laidOut:laidOutB Tryz.prog=true:=by kernel_rfl
theorem walk(v0 v1:Value)(w:World)(h0:∃p,ea maxLen (jL w) v0 p)(h1:∃l,jw maxLen (jL w) v1 l∧l.length≤maxLen):
  Calls Tryz.prog 4 #[v0,v1] w fun e w'=>e = .returned (.bool true)∧Below w.heap.size w w':=by
 obtain⟨x0,k0⟩:=h0
 obtain⟨x1,k1,u1⟩:=h1
 exact Fn.law (ak3 k0 k1 u1)
set_option maxRecDepth 100000 in
theorem lifted(os:Os)(started:os.Started)(H:Type)(enc:TypeId×Value→H):
  ReturnsInHanded {} Tryz.checked os 4 .any (Rows.lexicoValuesSpec.pre6 enc Tryz.prog Tryz.f4 Rows.lexicoValuesRow.domain false) (Rows.lexicoValuesSpec.post enc Tryz.prog Tryz.f4 false true false false):=by
 refine returnsInHanded_of_change (C:=Tryz.checked) own started (by kernel_rfl) Tryz.func4
  (ChangeSpec.witness6 (enc:=enc) (C:=Tryz.checked) false ⟨#[],#[.agg #[.slice none 0 0,.slice none 0 0],.slice none 0 0],[]⟩ 8 (by kernel_rfl) (by kernel_rfl) (by kernel_rfl) (by kernel_rfl)) ?_
 intro W base args ds gs before aby hW anN _
 have tM:∀(j:Nat) t v,Tryz.f4.params[j]? = some t→args[j]? = some v→Value.okWide Tryz.prog W .any base t v:=aby
 have hW':=hW
 obtain⟨p,q,hA0,hV,rfl,oT,dX⟩:=hW
 have hA:DataW.TrodAll enc Tryz.prog W 0 (fun _=>true) true Tryz.f4.params.toList args.toList ds p:=hA0
 rw[Tryz.params4]at hA tM
 obtain⟨v0,vs0,d0,ds0,p0,q0,FO,rfl,rfl,h0,r0⟩:=trodAll_cons hA
 obtain⟨v1,GQ,d1,ds1,p1,q1,rfl,rfl,rfl,h1,r1⟩:=trodAll_cons r0
 obtain⟨rfl,rfl,rfl⟩:=trodAll_nil r1
 obtain rfl:args = #[v0,v1]:=by cases args;simp_all
 obtain⟨rfl,rfl⟩:=trodVars_none hV
 have lt0:∀x∈p0,x.block<W.heap.size:=by obtain⟨m,hm⟩:=h0;exact DataW.trod_lt m _ _ _ hm
 have w0:=aiZ (tM 0 25 v0 rfl rfl) h0
 have lt1:∀x∈p1,x.block<W.heap.size:=by obtain⟨m,hm⟩:=h1;exact DataW.trod_lt m _ _ _ hm
 have w1:=ak2 (tM 1 40 v1 rfl rfl) h1
 clear hA0 aby
 refine(walk _ _ W w0 w1).mono fun e W' ⟨he,Ug⟩=> ?_
 subst he
 exact⟨_,rfl,_,_,_,[],_,[],hW',trodAll_mk1 (shut_bool Tryz.underlying4 _),(trodAll_cons_mk (Below.trod laidOut (by kernel_rfl) (of_decide_eq_true (by kernel_rfl)) h0 Ug lt0) (trodAll_cons_mk (Below.trod laidOut (by kernel_rfl) (of_decide_eq_true (by kernel_rfl)) h1 Ug lt1) trodAll_mk0)),rfl,Ug.frame _,fun h=>by cases h⟩
theorem over:Rows.lexicoValuesRow.holds Tryz.pinned (OpenSpec.ofChange Rows.lexicoValuesSpec):=
 OpenClaim.holds_of_wide 4 Tryz.f4 rfl rfl rfl rfl rfl rfl rfl ⟨rfl,rfl,rfl,rfl,rfl⟩ rfl rfl rfl rfl rfl (by kernel_rfl) Tryz.func4 (by kernel_rfl)
  (of_decide_eq_true (by kernel_rfl)) (by unfold Func.isWrapper;first | (rw[if_pos (by decide +kernel)];kernel_rfl) | (rw[if_neg (by decide +kernel)];exact⟨rfl,rfl⟩))
  (fun os started H enc _=>lifted os started H enc)
end Go.Proofs.YtfjncmjbhfdnpaaGreat.abx
namespace Go.Proofs.YtfjncmjbhfdnpaaGreat
theorem lexicoValues_holds:Rows.LexicoValuesSaid:=abx.over
#print axioms lexicoValues_holds
end Go.Proofs.YtfjncmjbhfdnpaaGreat
