/- Walks over package amortcostref22: SameRats, SameProgram, for what is the same. -/
import Derived.Test.YtfjncmjbhfdnpaaGreatA10
import Derived.Test.YtfjncmjbhfdnpaaGreatGrw2
import Derived.Test.YtfjncmjbhfdnpaaGreatChk1
set_option linter.unusedVariables false
namespace Go.Eng
open Go.Proofs Num Lp
theorem sameRats_ok {H : Heap} {av bv : Value} {l : List Rat} {N : Nat} (ha : SlV (RatP N) 3 H av l) (hb : SlV (RatP N) 3 H bv l) (hl : l.length ≤ 4611686018427387904) (hN : (N : Int) ≤ 549755813888) :
  Fn Tryz.prog 19 #[av, bv] H (fun v H' => Heap.le H H' ∧ v = .bool true) := by
 obtain ⟨A, ca, xa, rfl, hca, hra, hxa⟩ := ha
 obtain ⟨B, cb, xb, rfl, hcb, hrb, hxb⟩ := hb; refine fn_intro (args := [_, _]) Tryz.func19 rfl rfl Tryz.ntmps19 rfl rfl fun w0 => ?_; refine vc_keep [0, 1] rfl ?_; refine vc_sr ?_; refine vr 1 ?_; refine vco_k [0, 1] ?_; refine vc_seq ?_; refine vc_sr ?_; refine vr 5 ?_; refine vco_k [0, 1, 10] ?_; refine vc_cond rfl (fun hb => ?_) (fun hb => ?_)
 ·
  simp at hb
 ·
  skip
  refine vc_skip ?_; refine vc_keep [0, 1] rfl ?_; refine vc_seq ?_; refine vc_sr ?_; refine vr 3 ?_; refine vco_k [0, 1, 12, 13] ?_; refine vc_block ?_; refine vc_loop1 (fun (i : Nat) => l.length - i) (fun (i : Nat) => put (put (put (put (emp) 0 (.val (.slice A l.length ca))) 1 (.val (.slice B l.length cb))) 12 (.val (.int .i64 (l.length : Int)))) 13 (.val (.int .i64 (i : Int)))) (fun (i : Nat) H' => Heap.le H H' ∧ i ≤ l.length) 0 (⟨.refl _, Nat.zero_le _⟩) sub_auto ?_; rintro i H1 ⟨h1, hi⟩; refine vc_sr ?_; refine vr 1 ?_; refine vco_k [0, 1, 12, 13, 14] ?_; refine vc_seq ?_; refine vc_cond rfl (fun hb => ?_) (fun hb => ?_)
  ·
   have hil : i < l.length := by simpa using hb
   obtain ⟨q, hq⟩ : ∃ q, l[i]? = some q := ⟨_, List.getElem?_eq_getElem hil⟩; obtain ⟨f1, A1, k1, c1, A2, k2, c2, hs1, hraw1, hx1⟩ := SlV.seg3 hxa hq; obtain ⟨f3, A3, k3, c3, A4, k4, c4, hs3, hraw3, hx3⟩ := SlV.seg3 hxb hq; refine vc_skip ?_; refine vc_keep [0, 1, 12, 13] rfl ?_; refine vc_seq ?_; refine vc_block ?_; refine vc_sr ?_; refine vr 2 ?_; refine vco_k [0, 1, 5, 12, 13] ?_; refine vc_sd .drawB [0, 1, 2, 3, 4, 5, 6, 7, 8, 9] follows (by kernel_rfl) ?_; refine vr 2 ?_; refine vco_at_st (vs := [.bool f1, .slice A1 k1 c1, .slice A2 k2 c2]) tbOk rfl rfl rfl rfl (hra.le h1) rfl (by decide) hx1 (by omega) (by omega) fun _ => ?_; refine vr 2 ?_; refine vco_at_st (vs := [.bool f3, .slice A3 k3 c3, .slice A4 k4 c4]) tbOk rfl rfl rfl rfl (hrb.le h1) rfl (by decide) hx3 (by omega) (by omega) fun _ => ?_; refine vco_callM rfl rfl ((rCmp_ok (N := N) (hraw1.le h1) (hraw3.le h1) (by omega)).mono fun v H' h => (⟨h.1, by rw [h.2, cmpQ_self]⟩ : Heap.le H1 H' ∧ v = .int .i64 0)) (fun _ _ h => by first | exact h.le | exact h.1) ?_; rintro _ H2 ⟨hl2, rfl⟩; refine vr 1 ?_; refine vco_k [0, 1, 12, 13, 25] ?_; refine vc_cond rfl (fun hb => ?_) (fun hb => ?_)
   ·
    simp at hb
   ·
    skip
    refine vc_skip ?_; refine vc_keep [0, 1, 12, 13] rfl ?_; refine vc_region rfl ?_; refine vco_add rfl rfl ⟨by omega, by omega⟩ ?_; refine vr 1 ?_; refine vco_end ?_; exact ⟨i + 1, by omega, sub_auto, h1.trans hl2, by omega⟩
  ·
   skip
   refine vc_exit ?_; refine vc_keep [] rfl ?_; refine vc_sr ?_; refine vr 1 ?_; refine vco_k [4] ?_; refine vc_ret ⟨.inr rfl, _, .tmp rfl (.nil), ?_⟩; exact ⟨h1, rfl⟩
end Go.Eng
