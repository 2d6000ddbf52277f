/- Walks over package amortcostref22: Before. -/
import Derived.Test.YtbdlohajhbnadaaGreatA10
set_option linter.unusedVariables false
namespace Go.Eng
open Go.Proofs Num Lp
theorem before_ok {H : Heap} {av bv : Value} {a b : List Rat} {N : Nat} (ha : SlV (RatP N) 3 H av a) (hb : SlV (RatP N) 3 H bv b) (hal : a.length ≤ 1000000) (hle : ∀ (i : Nat) (u w : Rat), a[i]? = some u → b[i]? = some w → (∀ j, j < i → a[j]? = b[j]?) → u ≤ w) (hN : (N : Int) ≤ 549755813888) :
  Fn Tryz.prog 34 #[av, bv] H (fun v H' => Heap.le H H' ∧ ∃ z : Int, v = .int .i64 z ∧ z ≤ 0) := by
 obtain ⟨A, ca, xa, rfl, hca, hra, hxa⟩ := ha
 obtain ⟨B, cb, xb, rfl, hcb, hrb, hxb⟩ := hb; refine fn_intro (args := [_, _]) Tryz.func34 rfl rfl Tryz.ntmps34 rfl rfl fun w0 => ?_; refine vc_keep [0, 1] rfl ?_; refine vc_sr ?_; refine vr 1 ?_; refine vco_k [0, 1] ?_; refine vc_seq ?_; refine vc_sr ?_; refine vr 1 ?_; refine vco_k [0, 1, 5] ?_; refine vc_block ?_; refine vc_loop1 (fun (i : Nat) => a.length - i) (fun (i : Nat) => put (put (put (emp) 0 (.val (.slice A a.length ca))) 1 (.val (.slice B b.length cb))) 5 (.val (.int .i64 (i : Int)))) (fun (i : Nat) H' => Heap.le H H' ∧ i ≤ a.length ∧ ∀ j, j < i → a[j]? = b[j]?) 0 (⟨.refl _, Nat.zero_le _, fun j h => by omega⟩) sub_auto ?_; rintro i H1 ⟨h1, hi, heq⟩; refine vc_seq ?_; refine vc_sr ?_; refine vr 5 ?_; refine vco_min rfl rfl ?_; refine vr 1 ?_; refine vco_k [0, 1, 5, 13] ?_; refine vc_cond rfl (fun hb => ?_) (fun hb => ?_)
 ·
  have hb1 : (i : Int) < (if (b.length : Int) < (a.length : Int) then (b.length : Int) else (a.length : Int)) := by simpa using hb
  have hia : i < a.length ∧ i < b.length := by split at hb1 <;> omega
  obtain ⟨u, hu⟩ : ∃ q, a[i]? = some q := ⟨_, List.getElem?_eq_getElem hia.1⟩; obtain ⟨w, hw⟩ : ∃ q, b[i]? = some q := ⟨_, List.getElem?_eq_getElem hia.2⟩; obtain ⟨f1, A1, k1, c1, A2, k2, c2, hs1, hraw1, hx1⟩ := SlV.seg3 hxa hu; obtain ⟨f3, A3, k3, c3, A4, k4, c4, hs3, hraw3, hx3⟩ := SlV.seg3 hxb hw; have huw := hle i u w hu hw heq; refine vc_skip ?_; refine vc_keep [0, 1, 5] rfl ?_; refine vc_seq ?_; refine vc_block ?_; refine vc_sd .drawB [0, 1, 2, 3, 4, 5, 6, 7, 8, 9] follows (by kernel_rfl) ?_; refine vr 2 ?_; refine vco_at_st (vs := [.bool f1, .slice A1 k1 c1, .slice A2 k2 c2]) tbOk rfl rfl rfl rfl (hra.le h1) rfl (by decide) hx1 (by omega) (by omega) fun _ => ?_; refine vr 2 ?_; refine vco_at_st (vs := [.bool f3, .slice A3 k3 c3, .slice A4 k4 c4]) tbOk rfl rfl rfl rfl (hrb.le h1) rfl (by decide) hx3 (by omega) (by omega) fun _ => ?_; refine vco_callM rfl rfl (rCmp_ok (N := N) (hraw1.le h1) (hraw3.le h1) (by omega)) (fun _ _ h => by first | exact h.le | exact h.1) ?_; rintro _ H2 ⟨hl2, rfl⟩; refine vr 1 ?_; refine vco_k [0, 1, 5, 6] ?_; refine vc_sr ?_; refine vr 2 ?_; refine vco_k [0, 1, 5, 6, 26] ?_; refine vc_cond rfl (fun hb => ?_) (fun hb => ?_)
  ·
   skip
   refine vc_sr ?_; refine vr 2 ?_; refine vco_k [4] ?_; refine vc_ret ⟨.inr rfl, _, .tmp rfl (.nil), ?_⟩; exact ⟨h1.trans hl2, _, rfl, cmp_le.2 huw⟩
  ·
   have h0 : u = w := cmp_eq.1 (by simpa using hb); refine vc_skip ?_; refine vc_keep [0, 1, 5] rfl ?_; refine vc_region rfl ?_; refine vr 1 ?_; refine vco_add rfl rfl ⟨by omega, by omega⟩ ?_; refine vr 1 ?_; refine vco_end ?_; exact ⟨i + 1, by omega, sub_auto, h1.trans hl2, by omega, fun j hj => by by_cases h9 : j < i; exact heq j h9; (obtain rfl : j = i := by omega); rw [hu, hw, h0]⟩
 ·
  skip
  refine vc_exit ?_; refine vc_keep [] rfl ?_; refine vc_sr ?_; refine vr 1 ?_; refine vco_k [4] ?_; refine vc_ret ⟨.inr rfl, _, .tmp rfl (.nil), ?_⟩; exact ⟨h1, 0, rfl, Int.le_refl _⟩
end Go.Eng
