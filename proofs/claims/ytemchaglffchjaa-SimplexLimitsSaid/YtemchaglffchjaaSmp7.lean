/- Walks over package simplex, simplex.go, part 7: CheckUnbounded. -/
import Derived.Test.YtemchaglffchjaaA10
import Derived.Test.YtemchaglffchjaaSmp6
set_option linter.unusedVariables false
namespace Go.Eng
open Go.Proofs Num Lp
theorem CheckUnbounded_ok {H : Heap} {v cv xv rv : Value} {p : Prg} {c x r : List Rat} {N : Nat} (hp : ProgV N H v p) (hc : SlV (RatP N) 3 H cv c) (hx : SlV (RatP N) 3 H xv x) (hr : SlV (RatP N) 3 H rv r) (hxN : (x.length : Int) ≤ 1099511627776) (hN : N ≤ 400000000) :
  Fn Try.prog 45 #[v, cv, xv, rv] H (fun v H' => Heap.le H H' ∧ ∃ b, v = .bool b ∧ (b = true ↔ ChkUnb p c x r)) := by
 obtain ⟨fv, rv0, rfl, hfv, hrv0⟩ := id hp
 obtain ⟨Af, cf, xf, rfl, hrF, hxF⟩ := hfv.one
 obtain ⟨Ar, cr, xr, rfl, hrR, hxR⟩ := hrv0.row
 obtain ⟨Ay, cy, xy, rfl, hrY, hxY⟩ := hr.rat
 obtain ⟨Ac, cc, xc, rfl, hrC, hxC⟩ := hc.rat
 obtain ⟨Ax, cx, xx, rfl, hrX, hxX⟩ := hx.rat; refine fn_intro (args := [_, _, _, _]) Try.func45 rfl rfl Try.ntmps45 rfl rfl fun w0 => ?_; refine vc_keep [0, 1, 2, 3] rfl ?_; refine vc_sr ?_; refine vco_box rfl rfl ?_; refine vr 1 ?_; refine vco_k [1, 2, 3, 4] ?_; refine vc_seq ?_
 by_cases hf : PFeas p x
 ·
  skip
  by_cases hcl : c.length = p.free.length
  ·
   skip
   by_cases hrl : r.length = p.free.length
   ·
    skip
    refine vc_sr ?_; refine vr 2 ?_; refine vco_call rfl rfl (Feasible_yes hp hx hxN (by omega) hf) ?_; rintro v1 H1 ⟨hl1, rfl⟩; refine vr 7 ?_; refine vco_cmp false rfl rfl (cne_f (by omega)) ?_; refine vr 7 ?_; refine vco_cmp false rfl rfl (cne_f (by omega)) ?_; refine vr 1 ?_; refine vco_k [1, 3, 4, 29] ?_; refine vc_cond_f rfl ?_; refine vc_skip ?_; refine vc_keep [1, 3, 4] rfl ?_; refine vc_sr ?_; refine vr 1 ?_; refine vco_call rfl rfl (svector_ok (hr.le (ratUp N) hl1) (by omega) (by have h9 := hf.ok.cols; omega)) ?_; rintro v3 H3 ⟨hl3, hs3⟩; have hl13 := hl1.trans hl3; have hn4 := hf.ok.cols; refine vr 1 ?_; refine vco_k [1, 4, 9] ?_
    by_cases hm : p.lp.Meets 0 (fn r)
    ·
     skip
     refine vc_sd .drawB [0, 1, 2, 3, 4, 5, 7, 6, 8, 9, 10, 11, 12] follows (by kernel_rfl) ?_; refine vr 2 ?_; refine vco_callM rfl rfl (swhole_ok) (fun _ _ h => by first | exact h.le | exact h.1) ?_; rintro v4 H4 ⟨e4, rfl⟩; rw [e4]; refine vco_callM rfl rfl (Fn.yes (satisfies_ok (t := 0) (M := N + 2) (hp.le hl13) hf.ok hs3 hrl (numV_int H3 (n := 0) (by decide) (by decide)) (by decide) hr.rsize (by omega) (by omega)) hm) (fun _ _ h => by first | exact h.le | exact h.1) ?_; rintro v5 H5 ⟨hl5, rfl⟩; refine vr 3 ?_; refine vco_callM rfl rfl (svector_ok (hc.le (ratUp N) (hl13.trans hl5)) (by omega) (by omega)) (fun _ _ h => by first | exact h.le | exact h.1) ?_; rintro v6 H6 ⟨hl6, hs6⟩; refine vco_callM rfl rfl (sdot_ok (s := N + 2) hs6 (hs3.le numUp (hl5.trans hl6)) (by omega) hc.rsize hr.rsize (by rw [hcl]; have h9 : ((p.free.length : Int) + 2) * (2 * ((N + 2 : Nat) : Int) + 2) ≤ 402 * (2 * ((N + 2 : Nat) : Int) + 2) := Int.mul_le_mul_of_nonneg_right (by omega) (by omega); omega)) (fun _ _ h => by first | exact h.le | exact h.1) ?_; rintro _ H7 ⟨hl7, vs7, rfl, hn7⟩; obtain ⟨n7, d7, b7, rfl⟩ := hn7.cells; have hsz7 := dot_sz (M := N + 2) c.length (fn c) (fn r) (fun j hj => hc.rsize _ (fn_mem hj)) (fun j hj => hr.rsize _ (fn_mem (by omega))); have hsz8 : c.length * (2 * (N + 2) + 2) ≤ 400 * (2 * (N + 2) + 2) := Nat.mul_le_mul_right _ (by omega); refine vco_callM rfl rfl (ssign_ok hn7 (by omega)) (fun _ _ h => by first | exact h.le | exact h.1) ?_; rintro v8 H8 ⟨hl8, rfl⟩
     refine vr 3 ?_; refine vco_k [8] ?_; refine vc_ret ⟨.inr rfl, _, .tmp rfl (.nil), ?_⟩; exact ⟨(((hl13.trans hl5).trans hl6).trans hl7).trans hl8, _, rfl, by simp only [decide_eq_true_eq, sgn_lt]; rw [hcl]; exact ⟨fun h => ⟨hf, hcl, hrl, ⟨hf.meets, hm, h⟩⟩, fun h => h.cert.neg⟩⟩
    ·
     skip
     refine vc_sd .drawB [0, 1, 2, 3, 4, 5, 7, 6, 8, 9, 10, 11, 12] follows (by kernel_rfl) ?_; refine vr 2 ?_; refine vco_callM rfl rfl (swhole_ok) (fun _ _ h => by first | exact h.le | exact h.1) ?_; rintro v4 H4 ⟨e4, rfl⟩; rw [e4]; refine vco_callM rfl rfl (Fn.no (satisfies_ok (t := 0) (M := N + 2) (hp.le hl13) hf.ok hs3 hrl (numV_int H3 (n := 0) (by decide) (by decide)) (by decide) hr.rsize (by omega) (by omega)) hm) (fun _ _ h => by first | exact h.le | exact h.1) ?_; rintro v5 H5 ⟨hl5, rfl⟩; refine vr 9 ?_; refine vco_k [8] ?_; refine vc_ret ⟨.inr rfl, _, .tmp rfl (.nil), ?_⟩; exact ⟨hl13.trans hl5, false, rfl, ⟨(fun h => by cases h), (fun h => absurd h.cert.ray hm)⟩⟩
   ·
    skip
    refine vc_sr ?_; refine vr 2 ?_; refine vco_call rfl rfl (Feasible_yes hp hx hxN (by omega) hf) ?_; rintro v1 H1 ⟨hl1, rfl⟩; refine vr 7 ?_; refine vco_cmp false rfl rfl (cne_f (by omega)) ?_; refine vr 7 ?_; refine vco_cmp true rfl rfl (cne_t (by omega)) ?_; refine vr 1 ?_; refine vco_k [1, 3, 4, 29] ?_; refine vc_cond_t rfl ?_; refine vc_sr ?_; refine vr 1 ?_; refine vco_k [8] ?_; refine vc_ret ⟨.inr rfl, _, .tmp rfl (.nil), ?_⟩; exact ⟨hl1, false, rfl, ⟨(fun h => by cases h), (fun h => absurd h.rlen hrl)⟩⟩
  ·
   skip
   refine vc_sr ?_; refine vr 2 ?_; refine vco_call rfl rfl (Feasible_yes hp hx hxN (by omega) hf) ?_; rintro v1 H1 ⟨hl1, rfl⟩; refine vr 7 ?_; refine vco_cmp true rfl rfl (cne_t (by omega)) ?_; refine vr 9 ?_; refine vco_k [1, 3, 4, 29] ?_; refine vc_cond_t rfl ?_; refine vc_sr ?_; refine vr 1 ?_; refine vco_k [8] ?_; refine vc_ret ⟨.inr rfl, _, .tmp rfl (.nil), ?_⟩; exact ⟨hl1, false, rfl, ⟨(fun h => by cases h), (fun h => absurd h.clen hcl)⟩⟩
 ·
  skip
  refine vc_sr ?_; refine vr 2 ?_; refine vco_call rfl rfl (Feasible_no hp hx hxN (by omega) hf) ?_; rintro v1 H1 ⟨hl1, rfl⟩; refine vr 17 ?_; refine vco_k [1, 3, 4, 29] ?_; refine vc_cond_t rfl ?_; refine vc_sr ?_; refine vr 1 ?_; refine vco_k [8] ?_; refine vc_ret ⟨.inr rfl, _, .tmp rfl (.nil), ?_⟩; exact ⟨hl1, false, rfl, ⟨(fun h => by cases h), (fun h => absurd h.feas hf)⟩⟩
end Go.Eng
