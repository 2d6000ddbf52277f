/- The statement EntailLeastSaid: for every input the law returns true, and every argument reads behind the call as it read before. No condition. -/
import Derived.Test.YtdjoookebbbjkaaGreatA16
import Derived.Test.YtdjoookebbbjkaaGreatBr4
import Derived.Test.YtdjoookebbbjkaaGreatRows
import Derived.WalkKit
import Derived.ProofKit
import Derived.OpenShut
import Derived.ChangeOld
import Derived.Below
namespace Go.Proofs.YtdjoookebbbjkaaGreat.abV
open Go.ChangeShapes Go.WideShapes Go.ChangeAt Go.RowKit Go.aq Lp
set_option linter.unusedVariables false
theorem own:ownKnob Tryz.prog.godebug=none:=by kernel_rfl
theorem laidOut:laidOutB Tryz.prog=true:=by kernel_rfl
theorem walk(v0 v1:Value)(w:World)(h0:∃fs,jV (kH w) v0 fs)(h1:∃(f:aO)(A:Option Addr)(c:Nat),v1 = .agg #[.int .i64 f.c,.slice A f.ts.length c]∧aQ gy 2 (kH w) (.slice A f.ts.length c) f.ts):
  Calls Tryz.prog 4 #[v0,v1] w fun e w'=>e = .returned (.bool true)∧Below w.heap.size w w':=by
 obtain⟨x0,k0⟩:=h0
 obtain⟨f1,A1,c1,rfl,k1⟩:=h1
 exact Fn.law (ams k0 k1)
set_option maxRecDepth 100000 in
theorem lifted(os:Os)(started:os.Started)(H:Type)(enc:TypeId×Value→H):
  ReturnsInHanded {} Tryz.checked os 4 .any (Rows.entailLeastSpec.pre6 enc Tryz.prog Tryz.f4 Rows.entailLeastRow.domain false) (Rows.entailLeastSpec.post enc Tryz.prog Tryz.f4 false true false false):=by
 refine returnsInHanded_of_change (C:=Tryz.checked) own started (by kernel_rfl) Tryz.func4
  (ChangeSpec.witness6 (enc:=enc) (C:=Tryz.checked) false ⟨#[],#[.slice none 0 0,.agg #[.int .i64 0,.slice none 0 0]],[]⟩ 8 (by kernel_rfl) (by kernel_rfl) (by kernel_rfl) (by kernel_rfl)) ?_
 intro W base args ds gs before abW hW an5 _
 have rX:∀(j:Nat) t v,Tryz.f4.params[j]? = some t→args[j]? = some v→Value.okWide Tryz.prog W .any base t v:=abW
 have hW':=hW
 obtain⟨p,q,hA0,hV,rfl,pA,dV⟩:=hW
 have hA:DataW.TrodAll enc Tryz.prog W 0 (fun _=>true) true Tryz.f4.params.toList args.toList ds p:=hA0
 rw[Tryz.params4]at hA rX
 obtain⟨v0,vs0,d0,ds0,p0,q0,Fz,rfl,rfl,h0,r0⟩:=trodAll_cons hA
 obtain⟨v1,Gp,d1,ds1,p1,q1,rfl,rfl,rfl,h1,r1⟩:=trodAll_cons r0
 obtain⟨rfl,rfl,rfl⟩:=trodAll_nil r1
 obtain rfl:args = #[v0,v1]:=by cases args;simp_all
 obtain⟨rfl,rfl⟩:=trodVars_none hV
 have lt0:∀x∈p0,x.block<W.heap.size:=by obtain⟨m,hm⟩:=h0;exact DataW.trod_lt m _ _ _ hm
 have w0:=amw (rX 0 22 v0 rfl rfl) h0
 replace w0:∃fs,jV (kH W) v0 fs:=let ⟨x,k,_⟩:=w0;⟨x,k⟩
 have lt1:∀x∈p1,x.block<W.heap.size:=by obtain⟨m,hm⟩:=h1;exact DataW.trod_lt m _ _ _ hm
 have w1:=amv (rX 1 25 v1 rfl rfl) h1
 clear hA0 abW
 refine(walk _ _ W w0 w1).mono fun e W' ⟨he,Uc⟩=> ?_
 subst he
 exact⟨_,rfl,_,_,_,[],_,[],hW',trodAll_mk1 (shut_bool Tryz.underlying4 _),(trodAll_cons_mk (Below.trod laidOut (by kernel_rfl) (of_decide_eq_true (by kernel_rfl)) h0 Uc lt0) (trodAll_cons_mk (Below.trod laidOut (by kernel_rfl) (of_decide_eq_true (by kernel_rfl)) h1 Uc lt1) trodAll_mk0)),rfl,Uc.frame _,fun h=>by cases h⟩
theorem amx:Rows.entailLeastRow.holds Tryz.pinned (OpenSpec.ofChange Rows.entailLeastSpec):=
 OpenClaim.holds_of_wide 4 Tryz.f4 rfl rfl rfl rfl rfl rfl rfl ⟨rfl,rfl,rfl,rfl,rfl⟩ rfl rfl rfl rfl rfl (by kernel_rfl) Tryz.func4 (by kernel_rfl)
  (of_decide_eq_true (by kernel_rfl)) (by unfold Func.isWrapper;first | (rw[if_pos (by decide +kernel)];kernel_rfl) | (rw[if_neg (by decide +kernel)];exact⟨rfl,rfl⟩))
  (fun os started H enc _=>lifted os started H enc)
end Go.Proofs.YtdjoookebbbjkaaGreat.abV
namespace Go.Proofs.YtdjoookebbbjkaaGreat
theorem entailLeast_holds:Rows.EntailLeastSaid:=abV.amx
#print axioms entailLeast_holds
end Go.Proofs.YtdjoookebbbjkaaGreat
