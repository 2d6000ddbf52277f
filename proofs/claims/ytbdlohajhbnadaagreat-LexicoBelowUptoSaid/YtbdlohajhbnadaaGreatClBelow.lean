/- The statement LexicoBelowUptoSaid: for every input the law returns true, and every argument reads behind the call as it read before. Condition: the arguments are of bulk at most 1048576 (the second form). -/
import Derived.Test.YtbdlohajhbnadaaGreatA10
import Derived.Test.YtbdlohajhbnadaaGreatLw6
import Derived.Test.YtbdlohajhbnadaaGreatBr2
import Derived.Test.YtbdlohajhbnadaaGreatRows
import Derived.WalkKit
import Derived.ProofKit
import Derived.OpenShut
import Derived.ChangeOld
import Derived.Below
import Derived.JoinedCond
namespace Go.Proofs.YtbdlohajhbnadaaGreat.lexicoBelow
open Go.ChangeShapes Go.WideShapes Go.ChangeAt Go.RowKit Go.Eng Lp
set_option linter.unusedVariables false

theorem own : ownKnob Tryz.prog.godebug = none := by kernel_rfl
theorem laidOut : laidOutB Tryz.prog = true := by kernel_rfl

theorem bulk_pos {Hy : Type} (d : DataW Hy) : 1 ≤ Rows.uptoBulk d := by
  unfold Rows.uptoBulk
  split <;> omega
theorem bulk_all {Hy : Type} : ∀ l : List (DataW Hy), l.length ≤ Rows.uptoBulkAll l
  | [] => Nat.zero_le _
  | d :: l => by
    have h1 := bulk_pos d
    have h2 := bulk_all l
    unfold Rows.uptoBulkAll
    simp only [List.length_cons]; omega
theorem bulk_sl {Hy : Type} {d : DataW Hy} {n : Nat} (h : SlD d n) : n ≤ Rows.uptoBulk d := by
  rcases h with ⟨_, rfl⟩ | ⟨D, sp, rfl⟩
  · exact Nat.zero_le _
  · have h1 := bulk_all ((List.range n).map D)
    rw [List.length_map, List.length_range] at h1
    unfold Rows.uptoBulk; omega
theorem bulk_two {Hy : Type} {y0 y1 : DataW Hy} {n m : Nat} (h0 : SlD y0 n) (h1 : SlD y1 m) : n + m ≤ Rows.uptoBulk (.agg [y0, y1]) := by
  have h2 := bulk_sl h0
  have h3 := bulk_sl h1
  unfold Rows.uptoBulk Rows.uptoBulkAll Rows.uptoBulkAll Rows.uptoBulkAll
  omega

theorem walk (v0 v1 v2 : Value) (w : World) (h0 : ∃ p, ProgV maxLen (heapOf w) v0 p ∧ p.rows.length ≤ 1048576) (h1 : ∃ l, SlV (RatP maxLen) 3 (heapOf w) v1 l) (h2 : ∃ cs r, v2 = .agg (List.toArray cs) ∧ RowP maxLen (heapOf w) cs r) :
    Calls Tryz.prog 10 #[v0, v1, v2] w fun e w' => e = .returned (.bool true) ∧ Below w.heap.size w w' := by
  obtain ⟨x0, k0, u0⟩ := h0
  obtain ⟨x1, k1⟩ := h1
  obtain ⟨cs2, r2, rfl, k2⟩ := h2
  exact Fn.law (below_ok k0 k1 k2 u0)

set_option maxRecDepth 100000 in
theorem lifted (os : Os) (started : os.Started) (H : Type) (enc : TypeId × Value → H) (F : Stop.Interp) :
    ReturnsInHanded {} Tryz.checked os 10 .any ((Rows.OpenSpec.upto Rows.lexicoBelowSpec).pre6 enc Tryz.prog Tryz.f10 Rows.lexicoBelowUptoRow.domain false) (((Rows.OpenSpec.upto Rows.lexicoBelowSpec).at F).post enc Tryz.prog Tryz.f10 false true false false) := by
  refine returnsInHanded_of_cond (C := Tryz.checked) (s := (Rows.OpenSpec.upto Rows.lexicoBelowSpec)) (k := Rows.uptoSmall) rfl own started (by kernel_rfl) Tryz.func10
    (OpenSpec.witness (enc := enc) (C := Tryz.checked) (s := (Rows.OpenSpec.upto Rows.lexicoBelowSpec)) (k := Rows.uptoSmall) rfl false ⟨#[], #[.agg #[.slice none 0 0, .slice none 0 0], .slice none 0 0, .agg #[.slice none 0 0, .int .i64 0, .bool false, .slice none 0 0, .slice none 0 0]], []⟩ 8 (by kernel_rfl) (by kernel_rfl) (by kernel_rfl)
      (x := ([.agg [.nil, .nil], .nil, .agg [.nil, .lit (.int .i64 0), .agg [.lit (.bool false), .nil, .nil]]], [], [])) (by kernel_rfl) rfl (by kernel_rfl)) ?_
  intro W base args ds gs before hval0 hW hcnd hbulk _
  have hval : ∀ (j : Nat) t v, Tryz.f10.params[j]? = some t → args[j]? = some v → Value.okWide Tryz.prog W .any base t v := hval0
  have hW' := hW
  obtain ⟨p, q, hA0, hV, rfl, hfz, hnd⟩ := hW
  have hA : DataW.TrodAll enc Tryz.prog W 0 (fun _ => true) true Tryz.f10.params.toList args.toList ds p := hA0
  rw [Tryz.params10] at hA hval
  obtain ⟨v0, vs0, d0, ds0, p0, q0, hargs, rfl, rfl, h0, r0⟩ := trodAll_cons hA
  obtain ⟨v1, vs1, d1, ds1, p1, q1, rfl, rfl, rfl, h1, r1⟩ := trodAll_cons r0
  obtain ⟨v2, vs2, d2, ds2, p2, q2, rfl, rfl, rfl, h2, r2⟩ := trodAll_cons r1
  obtain ⟨rfl, rfl, rfl⟩ := trodAll_nil r2
  obtain rfl : args = #[v0, v1, v2] := by cases args; simp_all
  obtain ⟨rfl, rfl⟩ := trodVars_none hV
  have lt0 : ∀ x ∈ p0, x.block < W.heap.size := by obtain ⟨m, hm⟩ := h0; exact DataW.trod_lt m _ _ _ hm
  have w0 := readProg (hval 0 25 v0 rfl rfl) h0
  replace w0 : ∃ p, ProgV maxLen (heapOf W) v0 p ∧ p.rows.length ≤ 1048576 := by
    obtain ⟨x, k⟩ := w0
    refine ⟨x, k, ?_⟩
    obtain ⟨Af, cf, Ar, cr, e⟩ := k.forms
    obtain ⟨y0, y1, rfl, s0, s1⟩ := readProgD (e ▸ h0)
    have hb := bulk_two s0 s1
    have hu := of_decide_eq_true hbulk
    simp only [List.append_nil, Rows.uptoBulkAll] at hu
    omega
  have lt1 : ∀ x ∈ p1, x.block < W.heap.size := by obtain ⟨m, hm⟩ := h1; exact DataW.trod_lt m _ _ _ hm
  have w1 := readVec (hval 1 29 v1 rfl rfl) h1
  have lt2 : ∀ x ∈ p2, x.block < W.heap.size := by obtain ⟨m, hm⟩ := h2; exact DataW.trod_lt m _ _ _ hm
  have w2 := readRowV (hval 2 63 v2 rfl rfl) h2
  clear hA0 hval0
  refine (walk _ _ _ W w0 w1 w2).mono fun e W' ⟨he, bel⟩ => ?_
  subst he
  exact ⟨_, rfl, _, _, _, [], _, [], hW', trodAll_mk1 (shut_bool Tryz.underlying4 _), (trodAll_cons_mk (Below.trod laidOut (by kernel_rfl) (of_decide_eq_true (by kernel_rfl)) h0 bel lt0) (trodAll_cons_mk (Below.trod laidOut (by kernel_rfl) (of_decide_eq_true (by kernel_rfl)) h1 bel lt1) (trodAll_cons_mk (Below.trod laidOut (by kernel_rfl) (of_decide_eq_true (by kernel_rfl)) h2 bel lt2) trodAll_mk0))), rfl, bel.frame _, fun h => by cases h⟩


theorem over : Rows.lexicoBelowUptoRow.holds Tryz.pinned (Rows.OpenSpec.upto Rows.lexicoBelowSpec) :=
  OpenClaim.holds_of_cond 10 Tryz.f10 rfl rfl rfl rfl rfl rfl rfl ⟨rfl, rfl, rfl, rfl, rfl⟩ rfl rfl rfl rfl rfl (by kernel_rfl) Tryz.func10 (by kernel_rfl)
    (of_decide_eq_true (by kernel_rfl)) (by unfold Func.isWrapper; first | (rw [if_pos (by decide +kernel)]; kernel_rfl) | (rw [if_neg (by decide +kernel)]; exact ⟨rfl, rfl⟩))
    (fun os started H enc _ F0 => lifted os started H enc F0)
end Go.Proofs.YtbdlohajhbnadaaGreat.lexicoBelow
namespace Go.Proofs.YtbdlohajhbnadaaGreat
theorem lexicoBelow_holds : Rows.LexicoBelowUptoSaid := lexicoBelow.over
#print axioms lexicoBelow_holds
end Go.Proofs.YtbdlohajhbnadaaGreat
