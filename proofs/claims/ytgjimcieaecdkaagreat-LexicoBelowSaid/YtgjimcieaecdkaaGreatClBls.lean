/- The statement LexicoBelowSaid: for every input the law returns true, and every argument reads behind the call as it read before. No condition. -/
import Derived.Test.YtgjimcieaecdkaaGreatA10
import Derived.Test.YtgjimcieaecdkaaGreatLw6
import Derived.Test.YtgjimcieaecdkaaGreatBr6
import Derived.Test.YtgjimcieaecdkaaGreatRows
import Derived.WalkKit
import Derived.ProofKit
import Derived.OpenShut
import Derived.ChangeOld
import Derived.Below
import Derived.SizedLaws
namespace Go.Proofs.YtgjimcieaecdkaaGreat.Rk
open Go.ChangeShapes Go.WideShapes Go.ChangeAt Go.RowKit Go.ar Lp
set_option linter.unusedVariables false
theorem own:ownKnob Tryz.prog.godebug=none:=by kernel_rfl
theorem laidOut:laidOutB Tryz.prog=true:=by kernel_rfl
theorem walk(v0 v1 v2:Value)(w:World)(h0:∃p,dE maxLen (fk w) v0 p∧p.rows.length*88≤140737488351232)(h1:∃l,aH (bJ maxLen) 3 (fk w) v1 l)(h2:∃cs r,v2 = .agg (List.toArray cs)∧ez maxLen (fk w) cs r):
  Calls Tryz.prog 4 #[v0,v1,v2] w fun e w'=>e = .returned (.bool true)∧Below w.heap.size w w':=by
 obtain⟨x0,k0,u0⟩:=h0
 obtain⟨x1,k1⟩:=h1
 obtain⟨Gy,r2,rfl,k2⟩:=h2
 exact Fn.law (abm k0 k1 k2 u0)
set_option maxRecDepth 100000 in
theorem lifted(os:Os)(started:os.Started)(H:Type)(enc:TypeId×Value→H):
  ReturnsInHanded {} Tryz.checked os 4 .any (Rows.lexicoBelowSpec.pre6 enc Tryz.prog Tryz.f4 Rows.lexicoBelowRow.domain false) (Rows.lexicoBelowSpec.post enc Tryz.prog Tryz.f4 false true false false):=by
 refine returnsInHanded_of_change_sized (C:=Tryz.checked) own started (by kernel_rfl) Tryz.func4
  (ChangeSpec.witness6 (enc:=enc) (C:=Tryz.checked) false ⟨#[],#[.agg #[.slice none 0 0,.slice none 0 0],.slice none 0 0,.agg #[.slice none 0 0,.int .i64 0,.bool false,.slice none 0 0,.slice none 0 0]],[]⟩ 8 (by kernel_rfl) (by kernel_rfl) (by kernel_rfl) (by kernel_rfl)) ?_
 intro W base args ds gs before Rm hW adZ abn _
 have bV:(DataW.weightsEach Tryz.prog (Tryz.f4.params.toList++Rows.lexicoBelowSpec.plain.varTypes Tryz.prog) (ds++gs)).all (·≤reachBytes)=true:=abn
 have nN:∀(j:Nat) t v,Tryz.f4.params[j]? = some t→args[j]? = some v→Value.okWide Tryz.prog W .any base t v:=Rm
 have hW':=hW
 obtain⟨p,q,Rn,hV,rfl,kS,gT⟩:=hW
 have hA:DataW.TrodAll enc Tryz.prog W 0 (fun _=>true) true Tryz.f4.params.toList args.toList ds p:=Rn
 rw[Tryz.params4]at hA nN bV
 obtain⟨v0,Yi,d0,ds0,p0,q0,zc,rfl,rfl,h0,r0⟩:=trodAll_cons hA
 obtain⟨v1,z5,d1,ds1,p1,q1,rfl,rfl,rfl,h1,r1⟩:=trodAll_cons r0
 obtain⟨v2,zT,d2,ds2,p2,q2,rfl,rfl,rfl,h2,r2⟩:=trodAll_cons r1
 obtain⟨rfl,rfl,rfl⟩:=trodAll_nil r2
 obtain rfl:args = #[v0,v1,v2]:=by cases args;simp_all
 obtain⟨rfl,rfl⟩:=trodVars_none hV
 have lt0:∀x∈p0,x.block<W.heap.size:=by obtain⟨m,hm⟩:=h0;exact DataW.trod_lt m _ _ _ hm
 have w0:=abd (nN 0 25 v0 rfl rfl) h0
 replace w0:∃p,dE maxLen (fk W) v0 p∧p.rows.length*88≤140737488351232:=by
  obtain⟨x,k⟩:=w0
  refine⟨x,k,?_⟩
  obtain⟨Af,cf,Ar,cr,e⟩:=k.Q8
  obtain⟨y0,y1,rfl,s0,s1⟩:=abh (e▸h0)
  exact abi bV s1
 have lt1:∀x∈p1,x.block<W.heap.size:=by obtain⟨m,hm⟩:=h1;exact DataW.trod_lt m _ _ _ hm
 have w1:=abe (nN 1 26 v1 rfl rfl) h1
 have lt2:∀x∈p2,x.block<W.heap.size:=by obtain⟨m,hm⟩:=h2;exact DataW.trod_lt m _ _ _ hm
 have w2:=abf (nN 2 31 v2 rfl rfl) h2
 clear Rn Rm
 refine(walk _ _ _ W w0 w1 w2).mono fun e W' ⟨he,FV⟩=> ?_
 subst he
 exact⟨_,rfl,_,_,_,[],_,[],hW',trodAll_mk1 (shut_bool Tryz.underlying4 _),(trodAll_cons_mk (Below.trod laidOut (by kernel_rfl) (of_decide_eq_true (by kernel_rfl)) h0 FV lt0) (trodAll_cons_mk (Below.trod laidOut (by kernel_rfl) (of_decide_eq_true (by kernel_rfl)) h1 FV lt1) (trodAll_cons_mk (Below.trod laidOut (by kernel_rfl) (of_decide_eq_true (by kernel_rfl)) h2 FV lt2) trodAll_mk0))),rfl,FV.frame _,fun h=>by cases h⟩
theorem over:Rows.lexicoBelowRow.holds Tryz.pinned (OpenSpec.ofChange Rows.lexicoBelowSpec):=
 OpenClaim.holds_of_wide 4 Tryz.f4 rfl rfl rfl rfl rfl rfl rfl ⟨rfl,rfl,rfl,rfl,rfl⟩ rfl rfl rfl rfl rfl (by kernel_rfl) Tryz.func4 (by kernel_rfl)
  (of_decide_eq_true (by kernel_rfl)) (by unfold Func.isWrapper;first | (rw[if_pos (by decide +kernel)];kernel_rfl) | (rw[if_neg (by decide +kernel)];exact⟨rfl,rfl⟩))
  (fun os started H enc _=>lifted os started H enc)
end Go.Proofs.YtgjimcieaecdkaaGreat.Rk
namespace Go.Proofs.YtgjimcieaecdkaaGreat
theorem lexicoBelow_holds:Rows.LexicoBelowSaid:=Rk.over
#print axioms lexicoBelow_holds
end Go.Proofs.YtgjimcieaecdkaaGreat
