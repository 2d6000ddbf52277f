/- Walks over package simplex, simplex.go, part 3: Feasible, signed. -/
import Derived.Test.YtbdlohajhbnadaaGreatA10
import Derived.Test.YtbdlohajhbnadaaGreatSmp2
set_option linter.unusedVariables false
namespace Go.Eng
open Go.Proofs Num Lp
theorem Valid_yes {H : Heap} {v : Value} {p : Prg} {N : Nat} (hp : ProgV N H v p) (hok : p.Ok) : Fn Tryz.prog 51 #[v] H (RetE H (.bool true)) :=
  (Valid_ok hp).mono fun v H' ⟨h1, b, h2, h3⟩ => ⟨h1, by rw [h2, h3.2 hok]⟩
theorem Valid_no {H : Heap} {v : Value} {p : Prg} {N : Nat} (hp : ProgV N H v p) (hok : ¬ p.Ok) : Fn Tryz.prog 51 #[v] H (RetE H (.bool false)) :=
  (Valid_ok hp).mono fun v H' ⟨h1, b, h2, h3⟩ => ⟨h1, by
    cases b with
    | false => exact h2
    | true => exact absurd (h3.1 rfl) hok⟩
theorem Feasible_ok {H : Heap} {v xv : Value} {p : Prg} {x : List Rat} {N : Nat} (hp : ProgV N H v p) (hx : SlV (RatP N) 3 H xv x) (hxN : (x.length : Int) ≤ 1099511627776) (hN : N ≤ 1299999998) :
  Fn Tryz.prog 33 #[v, xv] H (fun v H' => Heap.le H H' ∧ ∃ b, v = .bool b ∧ (b = true ↔ PFeas p x)) := by
 obtain ⟨fv, rv0, rfl, hfv, hrv0⟩ := id hp
 obtain ⟨Af, cf, xf, rfl, hrF, hxF⟩ := hfv.one
 obtain ⟨Ar, cr, xr, rfl, hrR, hxR⟩ := hrv0.row
 obtain ⟨Ax, cx, xx, rfl, hrX, hxX⟩ := hx.rat; refine fn_intro (args := [_, _]) Tryz.func33 rfl rfl Tryz.ntmps33 rfl rfl fun w0 => ?_; refine vc_keep [0, 1] rfl ?_; refine vc_sr ?_; refine vco_box rfl rfl ?_; refine vr 1 ?_; refine vco_k [1, 2] ?_
 by_cases hok : p.Ok
 ·
  skip
  by_cases hxl : x.length = p.free.length
  ·
   skip
   refine vc_sd .drawB [0, 1, 2, 3, 4, 5, 6, 7, 8, 9, 10, 11, 12, 13, 14, 15, 16, 17] follows (by kernel_rfl) ?_; refine vr 1 ?_; refine vco_callM rfl rfl (Valid_yes hp hok) (fun _ _ h => by first | exact h.le | exact h.1) ?_; rintro v1 H1 ⟨e1, rfl⟩; rw [e1]; refine vr 6 ?_; refine vco_cmp true rfl rfl (ceq_t (by omega)) ?_; refine vr 4 ?_; refine vco_callM rfl rfl (svector_ok hx (by omega) hxN) (fun _ _ h => by first | exact h.le | exact h.1) ?_; rintro v2 H2 ⟨hl2, hs2⟩; refine vco_callM rfl rfl (swhole_ok) (fun _ _ h => by first | exact h.le | exact h.1) ?_; rintro v3 H3 ⟨e3, rfl⟩; rw [e3]; refine vco_callM rfl rfl (satisfies_ok (t := 1) (M := N + 2) (hp.le hl2) hok hs2 hxl (numV_int H2 (n := 1) (by decide) (by decide)) (by decide) hx.rsize (by omega) (by omega)) (fun _ _ h => by first | exact h.le | exact h.1) ?_; rintro v4 H4 ⟨hl4, b4, rfl, hb4⟩; refine vr 2 ?_; refine vco_k [4] ?_; refine vc_ret ⟨.inr rfl, _, .tmp rfl (.nil), ?_⟩; exact ⟨hl2.trans hl4, b4, rfl, ⟨(fun h => ⟨hok, hxl, hb4.1 h⟩), fun h => hb4.2 h.meets⟩⟩
  ·
   skip
   refine vc_sd .drawB [0, 1, 2, 3, 4, 5, 6, 7, 8, 9, 10, 11, 12, 13, 14, 15, 16, 17] follows (by kernel_rfl) ?_; refine vr 1 ?_; refine vco_callM rfl rfl (Valid_yes hp hok) (fun _ _ h => by first | exact h.le | exact h.1) ?_; rintro v1 H1 ⟨e1, rfl⟩; rw [e1]; refine vr 6 ?_; refine vco_cmp false rfl rfl (ceq_f (by omega)) ?_; refine vr 9 ?_; refine vco_k [4] ?_; refine vc_ret ⟨.inr rfl, _, .tmp rfl (.nil), ?_⟩; exact ⟨.refl _, false, rfl, ⟨(fun h => by cases h), (fun h => absurd h.len hxl)⟩⟩
 ·
  skip
  refine vc_sd .drawB [0, 1, 2, 3, 4, 5, 6, 7, 8, 9, 10, 11, 12, 13, 14, 15, 16, 17] follows (by kernel_rfl) ?_; refine vr 1 ?_; refine vco_callM rfl rfl (Valid_no hp hok) (fun _ _ h => by first | exact h.le | exact h.1) ?_; rintro v1 H1 ⟨e1, rfl⟩; rw [e1]; refine vr 16 ?_; refine vco_k [4] ?_; refine vc_ret ⟨.inr rfl, _, .tmp rfl (.nil), ?_⟩; exact ⟨.refl _, false, rfl, ⟨(fun h => by cases h), (fun h => absurd h.ok hok)⟩⟩
end Go.Eng
