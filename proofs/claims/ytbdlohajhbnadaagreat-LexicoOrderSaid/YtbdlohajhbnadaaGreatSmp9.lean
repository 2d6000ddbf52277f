/- Walks over package simplex, simplex.go, part 9: Value. -/
import Derived.Test.YtbdlohajhbnadaaGreatA10
import Derived.Test.YtbdlohajhbnadaaGreatSmp7
set_option linter.unusedVariables false
namespace Go.Eng
open Go.Proofs Num Lp
def ValP (c x : List Rat) (H : Heap) (v : Value) (H' : Heap) : Prop := Heap.le H H' ∧ ∃ s e, v = .tuple #[s, .int .i64 e] ∧ ((c.length ≠ x.length ∧ e = 21 ∧ s = .agg #[.bool false, .slice none 0 0, .slice none 0 0]) ∨ (c.length = x.length ∧ e = 0 ∧ CanV H' s (dotN c.length (fn c) (fn x))))
theorem Value_ok {H : Heap} {cv xv : Value} {c x : List Rat} {N : Nat} (hc : SlV (RatP N) 3 H cv c) (hx : SlV (RatP N) 3 H xv x) (hN : N ≤ 400000000) (hcN : c.length ≤ 1000) :
  Fn Tryz.prog 35 #[cv, xv] H (ValP c x H) := by
 obtain ⟨Ac, cc, xc, rfl, hrC, hxC⟩ := hc.rat
 obtain ⟨Ax, cx, xx, rfl, hrX, hxX⟩ := hx.rat; refine fn_intro (args := [_, _]) Tryz.func35 rfl rfl Tryz.ntmps35 rfl rfl fun w0 => ?_; refine vc_keep [0, 1] rfl ?_; refine vc_sr ?_; refine vco_alloc el42 rfl ?_; refine vr 1 ?_; refine vco_k [0, 1, 4] ?_; refine vc_seq ?_; refine vc_sr ?_; refine vr 5 ?_; refine vco_k [0, 1, 4, 10] ?_; refine vc_cond rfl (fun hb => ?_) (fun hb => ?_)
 ·
  have hb : c.length ≠ x.length := by simpa [Int.natCast_inj] using hb
  refine vc_sr ?_; refine vco_st tbOk rfl el42 rfl rfl ?_; obtain ⟨ti, hti, htz⟩ := sz42; refine vco_bstore (.inl ⟨rfl, rfl⟩) rfl rfl rfl hti htz rfl rfl rfl ?_; refine vr 1 ?_; refine vco_k [4, 5] ?_; obtain ⟨ri0, rhi0, rhz0⟩ := sz42; refine vc_ret ⟨.inr rfl, _, .agg rfl Tryz.underlying42 rhi0 rhz0 (.tmp rfl (.nil)), ?_⟩; exact ⟨.refl _, _, _, rfl, .inl ⟨hb, rfl, rfl⟩⟩
 ·
  have hcl : c.length = x.length := by simpa [Int.natCast_inj] using hb
  refine vc_skip ?_; refine vc_keep [0, 1, 4] rfl ?_; refine vc_sr ?_; refine vr 1 ?_; refine vco_call rfl rfl (svector_ok hc (by omega) (by omega)) ?_; rintro v8 H8 ⟨hl8, hs8⟩; refine vr 1 ?_; refine vco_call rfl rfl (svector_ok (hx.le (ratUp N) hl8) (by omega) (by omega)) ?_; rintro v9 H9 ⟨hl9, hs9⟩; refine vco_call rfl rfl (sdot_ok (s := N + 2) (hs8.le numUp hl9) hs9 (by omega) hc.rsize hx.rsize (by have h9 : ((c.length : Int) + 2) * (2 * ((N + 2 : Nat) : Int) + 2) ≤ 1002 * (2 * ((N + 2 : Nat) : Int) + 2) := Int.mul_le_mul_of_nonneg_right (by omega) (by omega); omega)) ?_; rintro _ H10 ⟨hl10, vs10, rfl, hn10⟩; obtain ⟨n10, d10, b10, rfl⟩ := hn10.cells; have hsz10 := dot_sz (M := N + 2) c.length (fn c) (fn x) (fun j hj => hc.rsize _ (fn_mem hj)) (fun j hj => hx.rsize _ (fn_mem (by omega))); have hsz11 : c.length * (2 * (N + 2) + 2) ≤ 1000 * (2 * (N + 2) + 2) := Nat.mul_le_mul_right _ (by omega); refine vco_call rfl rfl (sout_ok hn10 (by omega)) ?_; rintro v11 H11 ⟨hl11, hq11⟩; obtain ⟨u2, w2, rfl, hu2, hw2⟩ := id hq11; obtain ⟨A2, c2, rfl, hc2, hr2⟩ := id hu2; obtain ⟨A3, c3, rfl, hc3, hr3⟩ := id hw2; obtain ⟨ti, hti, htz⟩ := sz42; refine vco_bstore (.inl ⟨rfl, rfl⟩) rfl rfl rfl hti htz rfl rfl rfl ?_; refine vr 1 ?_; refine vco_k [4, 5] ?_; obtain ⟨ri0, rhi0, rhz0⟩ := sz42; refine vc_ret ⟨.inr rfl, _, .agg rfl Tryz.underlying42 rhi0 rhz0 (.tmp rfl (.nil)), ?_⟩; exact ⟨((hl8.trans hl9).trans hl10).trans hl11, _, _, rfl, .inr ⟨hcl, rfl, hq11⟩⟩
end Go.Eng
