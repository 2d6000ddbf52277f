/- The statement EntailGrowsUptoSaid: for every input the law returns true, and every argument reads behind the call as it read before. Condition: the arguments are of bulk at most 1048576 (the second form). -/
import Derived.Test.YtbbjgagpbffooaaGreatA10
import Derived.Test.YtbbjgagpbffooaaGreatEf4
import Derived.Test.YtbbjgagpbffooaaGreatBr4
import Derived.Test.YtbbjgagpbffooaaGreatRows
import Derived.WalkKit
import Derived.ProofKit
import Derived.OpenShut
import Derived.ChangeOld
import Derived.Below
import Derived.JoinedCond
namespace Go.Proofs.YtbbjgagpbffooaaGreat.entailGrows
open Go.ChangeShapes Go.WideShapes Go.ChangeAt Go.RowKit Go.Eng Lp
set_option linter.unusedVariables false

theorem own : ownKnob Tryz.prog.godebug = none := by kernel_rfl
theorem laidOut : laidOutB Tryz.prog = true := by kernel_rfl

theorem bulk_pos {Hy : Type} (d : DataW Hy) : 1 ≤ Rows.uptoBulk d := by
  unfold Rows.uptoBulk
  split <;> omega
theorem bulk_all {Hy : Type} : ∀ l : List (DataW Hy), l.length ≤ Rows.uptoBulkAll l
  | [] => Nat.zero_le _
  | d :: l => by
    have h1 := bulk_pos d
    have h2 := bulk_all l
    unfold Rows.uptoBulkAll
    simp only [List.length_cons]; omega
theorem bulk_sl {Hy : Type} {d : DataW Hy} {n : Nat} (h : SlD d n) : n ≤ Rows.uptoBulk d := by
  rcases h with ⟨_, rfl⟩ | ⟨D, sp, rfl⟩
  · exact Nat.zero_le _
  · have h1 := bulk_all ((List.range n).map D)
    rw [List.length_map, List.length_range] at h1
    unfold Rows.uptoBulk; omega
theorem walk (v0 v1 v2 v3 : Value) (w : World) (h0 : ∃ fs, FmV (heapOf w) v0 fs ∧ fs.length ≤ 1048576) (h1 : ∃ fs, FmV (heapOf w) v1 fs ∧ fs.length ≤ 1048576) (h2 : ∃ (f : Lin) (A : Option Addr) (c : Nat), v2 = .agg #[.int .i64 f.c, .slice A f.ts.length c] ∧ SlV TermP 2 (heapOf w) (.slice A f.ts.length c) f.ts) (h3 : ∃ z : Int, v3 = .int .u8 z ∧ 0 ≤ z ∧ z ≤ 255) :
    Calls Tryz.prog 6 #[v0, v1, v2, v3] w fun e w' => e = .returned (.bool true) ∧ Below w.heap.size w w' := by
  obtain ⟨x0, k0, u0⟩ := h0
  obtain ⟨x1, k1, u1⟩ := h1
  obtain ⟨f2, A2, c2, rfl, k2⟩ := h2
  obtain ⟨z3, rfl, a3, b3⟩ := h3
  exact Fn.law (egrows_ok k0 k1 k2 a3 b3 u0 u1)

set_option maxRecDepth 100000 in
theorem lifted (os : Os) (started : os.Started) (H : Type) (enc : TypeId × Value → H) (F : Stop.Interp) :
    ReturnsInHanded {} Tryz.checked os 6 .any ((Rows.OpenSpec.upto Rows.entailGrowsSpec).pre6 enc Tryz.prog Tryz.f6 Rows.entailGrowsUptoRow.domain false) (((Rows.OpenSpec.upto Rows.entailGrowsSpec).at F).post enc Tryz.prog Tryz.f6 false true false false) := by
  refine returnsInHanded_of_cond (C := Tryz.checked) (s := (Rows.OpenSpec.upto Rows.entailGrowsSpec)) (k := Rows.uptoSmall) rfl own started (by kernel_rfl) Tryz.func6
    (OpenSpec.witness (enc := enc) (C := Tryz.checked) (s := (Rows.OpenSpec.upto Rows.entailGrowsSpec)) (k := Rows.uptoSmall) rfl false ⟨#[], #[.slice none 0 0, .slice none 0 0, .agg #[.int .i64 0, .slice none 0 0], .int .u8 0], []⟩ 8 (by kernel_rfl) (by kernel_rfl) (by kernel_rfl)
      (x := ([.nil, .nil, .agg [.lit (.int .i64 0), .nil], .lit (.int .u8 0)], [], [])) (by kernel_rfl) rfl (by kernel_rfl)) ?_
  intro W base args ds gs before hval0 hW hcnd hbulk _
  have hval : ∀ (j : Nat) t v, Tryz.f6.params[j]? = some t → args[j]? = some v → Value.okWide Tryz.prog W .any base t v := hval0
  have hW' := hW
  obtain ⟨p, q, hA0, hV, rfl, hfz, hnd⟩ := hW
  have hA : DataW.TrodAll enc Tryz.prog W 0 (fun _ => true) true Tryz.f6.params.toList args.toList ds p := hA0
  rw [Tryz.params6] at hA hval
  obtain ⟨v0, vs0, d0, ds0, p0, q0, hargs, rfl, rfl, h0, r0⟩ := trodAll_cons hA
  obtain ⟨v1, vs1, d1, ds1, p1, q1, rfl, rfl, rfl, h1, r1⟩ := trodAll_cons r0
  obtain ⟨v2, vs2, d2, ds2, p2, q2, rfl, rfl, rfl, h2, r2⟩ := trodAll_cons r1
  obtain ⟨v3, vs3, d3, ds3, p3, q3, rfl, rfl, rfl, h3, r3⟩ := trodAll_cons r2
  obtain ⟨rfl, rfl, rfl⟩ := trodAll_nil r3
  obtain rfl : args = #[v0, v1, v2, v3] := by cases args; simp_all
  obtain ⟨rfl, rfl⟩ := trodVars_none hV
  have lt0 : ∀ x ∈ p0, x.block < W.heap.size := by obtain ⟨m, hm⟩ := h0; exact DataW.trod_lt m _ _ _ hm
  have w0 := readForms (hval 0 22 v0 rfl rfl) h0
  replace w0 : ∃ fs, FmV (heapOf W) v0 fs ∧ fs.length ≤ 1048576 := by
    obtain ⟨x, k, s⟩ := w0
    refine ⟨x, k, ?_⟩
    have hb := bulk_sl s
    have hu := of_decide_eq_true hbulk
    simp only [List.append_nil, Rows.uptoBulkAll] at hu
    omega
  have lt1 : ∀ x ∈ p1, x.block < W.heap.size := by obtain ⟨m, hm⟩ := h1; exact DataW.trod_lt m _ _ _ hm
  have w1 := readForms (hval 1 22 v1 rfl rfl) h1
  replace w1 : ∃ fs, FmV (heapOf W) v1 fs ∧ fs.length ≤ 1048576 := by
    obtain ⟨x, k, s⟩ := w1
    refine ⟨x, k, ?_⟩
    have hb := bulk_sl s
    have hu := of_decide_eq_true hbulk
    simp only [List.append_nil, Rows.uptoBulkAll] at hu
    omega
  have lt2 : ∀ x ∈ p2, x.block < W.heap.size := by obtain ⟨m, hm⟩ := h2; exact DataW.trod_lt m _ _ _ hm
  have w2 := readFormV (hval 2 25 v2 rfl rfl) h2
  obtain ⟨a3, rfl, rfl, rfl, w3⟩ := open_int Tryz.underlying5 (hval 3 5 v3 rfl rfl) h3
  clear hA0 hval0
  refine (walk _ _ _ _ W w0 w1 w2 ⟨a3, rfl, wf_u8 w3⟩).mono fun e W' ⟨he, bel⟩ => ?_
  subst he
  exact ⟨_, rfl, _, _, _, [], _, [], hW', trodAll_mk1 (shut_bool Tryz.underlying4 _), (trodAll_cons_mk (Below.trod laidOut (by kernel_rfl) (of_decide_eq_true (by kernel_rfl)) h0 bel lt0) (trodAll_cons_mk (Below.trod laidOut (by kernel_rfl) (of_decide_eq_true (by kernel_rfl)) h1 bel lt1) (trodAll_cons_mk (Below.trod laidOut (by kernel_rfl) (of_decide_eq_true (by kernel_rfl)) h2 bel lt2) (trodAll_cons_mk (shut_int Tryz.underlying5 w3) trodAll_mk0)))), rfl, bel.frame _, fun h => by cases h⟩


theorem over : Rows.entailGrowsUptoRow.holds Tryz.pinned (Rows.OpenSpec.upto Rows.entailGrowsSpec) :=
  OpenClaim.holds_of_cond 6 Tryz.f6 rfl rfl rfl rfl rfl rfl rfl ⟨rfl, rfl, rfl, rfl, rfl⟩ rfl rfl rfl rfl rfl (by kernel_rfl) Tryz.func6 (by kernel_rfl)
    (of_decide_eq_true (by kernel_rfl)) (by unfold Func.isWrapper; first | (rw [if_pos (by decide +kernel)]; kernel_rfl) | (rw [if_neg (by decide +kernel)]; exact ⟨rfl, rfl⟩))
    (fun os started H enc _ F0 => lifted os started H enc F0)
end Go.Proofs.YtbbjgagpbffooaaGreat.entailGrows
namespace Go.Proofs.YtbbjgagpbffooaaGreat
theorem entailGrows_holds : Rows.EntailGrowsUptoSaid := entailGrows.over
#print axioms entailGrows_holds
end Go.Proofs.YtbbjgagpbffooaaGreat
