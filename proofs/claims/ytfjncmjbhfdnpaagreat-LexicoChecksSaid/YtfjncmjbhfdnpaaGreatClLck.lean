/- The statement LexicoChecksSaid: for every input the law returns true, and every argument reads behind the call as it read before. No condition. -/
import Derived.Test.YtfjncmjbhfdnpaaGreatA10
import Derived.Test.YtfjncmjbhfdnpaaGreatLw11
import Derived.Test.YtfjncmjbhfdnpaaGreatBr5
import Derived.Test.YtfjncmjbhfdnpaaGreatRows
import Derived.WalkKit
import Derived.ProofKit
import Derived.OpenShut
import Derived.ChangeOld
import Derived.Below
namespace Go.Proofs.YtfjncmjbhfdnpaaGreat.Uu
open Go.ChangeShapes Go.WideShapes Go.ChangeAt Go.RowKit Go.ay Lp
set_option linter.unusedVariables false
theorem own:ownKnob Tryz.prog.godebug=none:=by kernel_rfl
theorem laidOut:laidOutB Tryz.prog=true:=by kernel_rfl
theorem walk(v0 v1 v2 v3 v4 v5:Value)(w:World)(h0:∃p,cN maxLen (gL w) v0 p)(h1:∃l,gB maxLen (gL w) v1 l∧l.length≤maxLen)(h2:∃S,nM maxLen (gL w) v2 S)(h3:∃z:Int,v3 = .int .u8 z∧0≤z∧z≤255)(h4:∃z:Int,v4 = .int .u8 z∧0≤z∧z≤255)(h5:∃q,bN (gL w) v5 q maxLen):
  Calls Tryz.prog 7 #[v0,v1,v2,v3,v4,v5] w fun e w'=>e = .returned (.bool true)∧Below w.heap.size w w':=by
 obtain⟨x0,k0⟩:=h0
 obtain⟨x1,k1,u1⟩:=h1
 obtain⟨x2,k2⟩:=h2
 obtain⟨x5,k5⟩:=h5
 obtain⟨z3,rfl,a3,b3⟩:=h3
 obtain⟨z4,rfl,a4,b4⟩:=h4
 exact Fn.law (aen k0 k1 k2 k5 a3 b3 a4 b4 u1)
set_option maxRecDepth 100000 in
theorem lifted(os:Os)(started:os.Started)(H:Type)(enc:TypeId×Value→H):
  ReturnsInHanded {} Tryz.checked os 7 .any (Rows.lexicoChecksSpec.pre6 enc Tryz.prog Tryz.f7 Rows.lexicoChecksRow.domain false) (Rows.lexicoChecksSpec.post enc Tryz.prog Tryz.f7 false true false false):=by
 refine returnsInHanded_of_change (C:=Tryz.checked) own started (by kernel_rfl) Tryz.func7
  (ChangeSpec.witness6 (enc:=enc) (C:=Tryz.checked) false ⟨#[],#[.agg #[.slice none 0 0,.slice none 0 0],.slice none 0 0,.agg #[.int .i64 0,.slice none 0 0,.slice none 0 0,.slice none 0 0,.slice none 0 0],.int .u8 0,.int .u8 0,.agg #[.bool false,.slice none 0 0,.slice none 0 0]],[]⟩ 8 (by kernel_rfl) (by kernel_rfl) (by kernel_rfl) (by kernel_rfl)) ?_
 intro W base args ds gs before Uv hW ahb _
 have nz:∀(j:Nat) t v,Tryz.f7.params[j]? = some t→args[j]? = some v→Value.okWide Tryz.prog W .any base t v:=Uv
 have hW':=hW
 obtain⟨p,q,Uw,hV,rfl,nh,jF⟩:=hW
 have hA:DataW.TrodAll enc Tryz.prog W 0 (fun _=>true) true Tryz.f7.params.toList args.toList ds p:=Uw
 rw[Tryz.params7]at hA nz
 obtain⟨v0,vs0,d0,ds0,p0,q0,CL,rfl,rfl,h0,r0⟩:=trodAll_cons hA
 obtain⟨v1,DE,d1,ds1,p1,q1,rfl,rfl,rfl,h1,r1⟩:=trodAll_cons r0
 obtain⟨v2,Dv,d2,ds2,p2,q2,rfl,rfl,rfl,h2,r2⟩:=trodAll_cons r1
 obtain⟨v3,Q6,d3,ds3,p3,q3,rfl,rfl,rfl,h3,r3⟩:=trodAll_cons r2
 obtain⟨v4,we,d4,ds4,p4,q4,rfl,rfl,rfl,h4,r4⟩:=trodAll_cons r3
 obtain⟨v5,vs5,d5,ds5,p5,q5,rfl,rfl,rfl,h5,r5⟩:=trodAll_cons r4
 obtain⟨rfl,rfl,rfl⟩:=trodAll_nil r5
 obtain rfl:args = #[v0,v1,v2,v3,v4,v5]:=by cases args;simp_all
 obtain⟨rfl,rfl⟩:=trodVars_none hV
 have lt0:∀x∈p0,x.block<W.heap.size:=by obtain⟨m,hm⟩:=h0;exact DataW.trod_lt m _ _ _ hm
 have w0:=aec (nz 0 25 v0 rfl rfl) h0
 have lt1:∀x∈p1,x.block<W.heap.size:=by obtain⟨m,hm⟩:=h1;exact DataW.trod_lt m _ _ _ hm
 have w1:=aed (nz 1 40 v1 rfl rfl) h1
 have lt2:∀x∈p2,x.block<W.heap.size:=by obtain⟨m,hm⟩:=h2;exact DataW.trod_lt m _ _ _ hm
 have w2:=aef (nz 2 43 v2 rfl rfl) h2
 obtain⟨a3,rfl,rfl,rfl,w3⟩:=open_int Tryz.underlying5 (nz 3 5 v3 rfl rfl) h3
 obtain⟨a4,rfl,rfl,rfl,w4⟩:=open_int Tryz.underlying5 (nz 4 5 v4 rfl rfl) h4
 have lt5:∀x∈p5,x.block<W.heap.size:=by obtain⟨m,hm⟩:=h5;exact DataW.trod_lt m _ _ _ hm
 have w5:=aee (nz 5 31 v5 rfl rfl) h5
 clear Uw Uv
 refine(walk _ _ _ _ _ _ W w0 w1 w2 ⟨a3,rfl,wf_u8 w3⟩ ⟨a4,rfl,wf_u8 w4⟩ w5).mono fun e W' ⟨he,FN⟩=> ?_
 subst he
 exact⟨_,rfl,_,_,_,[],_,[],hW',trodAll_mk1 (shut_bool Tryz.underlying4 _),(trodAll_cons_mk (Below.trod laidOut (by kernel_rfl) (of_decide_eq_true (by kernel_rfl)) h0 FN lt0) (trodAll_cons_mk (Below.trod laidOut (by kernel_rfl) (of_decide_eq_true (by kernel_rfl)) h1 FN lt1) (trodAll_cons_mk (Below.trod laidOut (by kernel_rfl) (of_decide_eq_true (by kernel_rfl)) h2 FN lt2) (trodAll_cons_mk (shut_int Tryz.underlying5 w3) (trodAll_cons_mk (shut_int Tryz.underlying5 w4) (trodAll_cons_mk (Below.trod laidOut (by kernel_rfl) (of_decide_eq_true (by kernel_rfl)) h5 FN lt5) trodAll_mk0)))))),rfl,FN.frame _,fun h=>by cases h⟩
theorem over:Rows.lexicoChecksRow.holds Tryz.pinned (OpenSpec.ofChange Rows.lexicoChecksSpec):=
 OpenClaim.holds_of_wide 7 Tryz.f7 rfl rfl rfl rfl rfl rfl rfl ⟨rfl,rfl,rfl,rfl,rfl⟩ rfl rfl rfl rfl rfl (by kernel_rfl) Tryz.func7 (by kernel_rfl)
  (of_decide_eq_true (by kernel_rfl)) (by unfold Func.isWrapper;first | (rw[if_pos (by decide +kernel)];kernel_rfl) | (rw[if_neg (by decide +kernel)];exact⟨rfl,rfl⟩))
  (fun os started H enc _=>lifted os started H enc)
end Go.Proofs.YtfjncmjbhfdnpaaGreat.Uu
namespace Go.Proofs.YtfjncmjbhfdnpaaGreat
theorem lexicoChecks_holds:Rows.LexicoChecksSaid:=Uu.over
#print axioms lexicoChecks_holds
end Go.Proofs.YtfjncmjbhfdnpaaGreat
