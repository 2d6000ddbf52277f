/- Walks over package simplex, simplex.go, part 3: Feasible, signed. -/
import Derived.Test.YtemchaglffchjaaA10
import Derived.Test.YtemchaglffchjaaSmp2
set_option linter.unusedVariables false
namespace Go.Eng
open Go.Proofs Num Lp
theorem Valid_yes {H : Heap} {v : Value} {p : Prg} {N : Nat} (hp : ProgV N H v p) (hok : p.Ok) : Fn Try.prog 6 #[v] H (RetE H (.bool true)) :=
  (Valid_ok hp).mono fun v H' ⟨h1, b, h2, h3⟩ => ⟨h1, by rw [h2, h3.2 hok]⟩
theorem Valid_no {H : Heap} {v : Value} {p : Prg} {N : Nat} (hp : ProgV N H v p) (hok : ¬ p.Ok) : Fn Try.prog 6 #[v] H (RetE H (.bool false)) :=
  (Valid_ok hp).mono fun v H' ⟨h1, b, h2, h3⟩ => ⟨h1, by
    cases b with
    | false => exact h2
    | true => exact absurd (h3.1 rfl) hok⟩
theorem Feasible_ok {H : Heap} {v xv : Value} {p : Prg} {x : List Rat} {N : Nat} (hp : ProgV N H v p) (hx : SlV (RatP N) 3 H xv x) (hxN : (x.length : Int) ≤ 1099511627776) (hN : N ≤ 1299999998) :
  Fn Try.prog 72 #[v, xv] H (fun v H' => Heap.le H H' ∧ ∃ b, v = .bool b ∧ (b = true ↔ PFeas p x)) := by
 obtain ⟨fv, rv0, rfl, hfv, hrv0⟩ := id hp
 obtain ⟨Af, cf, xf, rfl, hrF, hxF⟩ := hfv.one
 obtain ⟨Ar, cr, xr, rfl, hrR, hxR⟩ := hrv0.row
 obtain ⟨Ax, cx, xx, rfl, hrX, hxX⟩ := hx.rat; refine fn_intro (args := [_, _]) Try.func72 rfl rfl Try.ntmps72 rfl rfl fun w0 => ?_; refine vc_keep [0, 1] rfl ?_; refine vc_sr ?_; refine vco_box rfl rfl ?_; refine vr 1 ?_; refine vco_k [1, 2] ?_
 by_cases hok : p.Ok
 ·
  skip
  by_cases hxl : x.length = p.free.length
  ·
   skip
   refine vc_sd .drawB [0, 1, 2, 3, 4, 5, 6, 7, 8, 9, 10, 11, 12, 13, 14, 15, 16, 17] follows (by kernel_rfl) ?_; refine vr 1 ?_; refine vco_callM rfl rfl (Valid_yes hp hok) (fun _ _ h => by first | exact h.le | exact h.1) ?_; rintro v1 H1 ⟨e1, rfl⟩; rw [e1]; refine vr 6 ?_; refine vco_cmp true rfl rfl (ceq_t (by omega)) ?_; refine vr 4 ?_; refine vco_callM rfl rfl (svector_ok hx (by omega) hxN) (fun _ _ h => by first | exact h.le | exact h.1) ?_; rintro v2 H2 ⟨hl2, hs2⟩; refine vco_callM rfl rfl (swhole_ok) (fun _ _ h => by first | exact h.le | exact h.1) ?_; rintro v3 H3 ⟨e3, rfl⟩; rw [e3]; refine vco_callM rfl rfl (satisfies_ok (t := 1) (M := N + 2) (hp.le hl2) hok hs2 hxl (numV_int H2 (n := 1) (by decide) (by decide)) (by decide) hx.rsize (by omega) (by omega)) (fun _ _ h => by first | exact h.le | exact h.1) ?_; rintro v4 H4 ⟨hl4, b4, rfl, hb4⟩; refine vr 2 ?_; refine vco_k [4] ?_; refine vc_ret ⟨.inr rfl, _, .tmp rfl (.nil), ?_⟩; exact ⟨hl2.trans hl4, b4, rfl, ⟨(fun h => ⟨hok, hxl, hb4.1 h⟩), fun h => hb4.2 h.meets⟩⟩
  ·
   skip
   refine vc_sd .drawB [0, 1, 2, 3, 4, 5, 6, 7, 8, 9, 10, 11, 12, 13, 14, 15, 16, 17] follows (by kernel_rfl) ?_; refine vr 1 ?_; refine vco_callM rfl rfl (Valid_yes hp hok) (fun _ _ h => by first | exact h.le | exact h.1) ?_; rintro v1 H1 ⟨e1, rfl⟩; rw [e1]; refine vr 6 ?_; refine vco_cmp false rfl rfl (ceq_f (by omega)) ?_; refine vr 9 ?_; refine vco_k [4] ?_; refine vc_ret ⟨.inr rfl, _, .tmp rfl (.nil), ?_⟩; exact ⟨.refl _, false, rfl, ⟨(fun h => by cases h), (fun h => absurd h.len hxl)⟩⟩
 ·
  skip
  refine vc_sd .drawB [0, 1, 2, 3, 4, 5, 6, 7, 8, 9, 10, 11, 12, 13, 14, 15, 16, 17] follows (by kernel_rfl) ?_; refine vr 1 ?_; refine vco_callM rfl rfl (Valid_no hp hok) (fun _ _ h => by first | exact h.le | exact h.1) ?_; rintro v1 H1 ⟨e1, rfl⟩; rw [e1]; refine vr 16 ?_; refine vco_k [4] ?_; refine vc_ret ⟨.inr rfl, _, .tmp rfl (.nil), ?_⟩; exact ⟨.refl _, false, rfl, ⟨(fun h => by cases h), (fun h => absurd h.ok hok)⟩⟩
theorem signed_ok {H : Heap} {v yv : Value} {p : Prg} {y : List Rat} {N : Nat} (hp : ProgV N H v p) (hok : p.Ok) (hy : SlV (RatP N) 3 H yv y) (hN : N ≤ 1299999998) :
  Fn Try.prog 73 #[v, yv] H (fun v H' => Heap.le H H' ∧ ∃ b, v = .bool b ∧ (b = true ↔ y.length = p.rows.length ∧ p.lp.Signed (fn y))) := by
 obtain ⟨fv, rv0, rfl, hfv, hrv0⟩ := id hp
 obtain ⟨Af, cf, xf, rfl, hrF, hxF⟩ := hfv.one
 obtain ⟨Ar, cr, xr, rfl, hrR, hxR⟩ := hrv0.row
 obtain ⟨Ay, cy, xy, rfl, hrY, hxY⟩ := hy.rat
 have hm8 := hok.rows; refine fn_intro (args := [_, _]) Try.func73 rfl rfl Try.ntmps73 rfl rfl fun w0 => ?_; refine vc_keep [0, 1] rfl ?_; refine vc_sr ?_; refine vco_box rfl rfl ?_; refine vr 1 ?_; refine vco_k [1, 2] ?_; refine vc_seq ?_; refine vc_sr ?_; refine vr 6 ?_; refine vco_k [1, 2, 13] ?_; refine vc_cond rfl (fun hb => ?_) (fun hb => ?_)
 ·
  have hb : ¬ y.length = p.rows.length := by simpa [Int.natCast_inj] using hb
  refine vc_sr ?_; refine vr 1 ?_; refine vco_k [4] ?_; refine vc_ret ⟨.inr rfl, _, .tmp rfl (.nil), ?_⟩; exact ⟨.refl _, false, rfl, ⟨(fun h => by cases h), (fun h => absurd h.1 hb)⟩⟩
 ·
  have hyl : y.length = p.rows.length := by simpa [Int.natCast_inj] using hb
  rw [hyl]; refine vc_skip ?_; refine vc_keep [1, 2] rfl ?_; refine vc_seq ?_; refine vc_sr ?_; refine vr 4 ?_; refine vco_k [1, 15, 16, 17] ?_; refine vc_block ?_; refine vc_loop1 (fun (i : Nat) => p.rows.length - i) (fun (i : Nat) => put (put (put (put (emp) 1 (.val (.slice Ay p.rows.length cy))) 15 (.val (.slice Ar p.rows.length cr))) 16 (.val (.int .i64 (p.rows.length : Int)))) 17 (.val (.int .i64 (i : Int)))) (fun (i : Nat) H' => Heap.le H H' ∧ (∀ k, k < i → (p.lp.rel k = 3 → 0 ≤ fn y k) ∧ (p.lp.rel k = 1 → fn y k ≤ 0)) ∧ i ≤ p.rows.length) 0 (⟨.refl _, (fun j h => by omega), Nat.zero_le _⟩) sub_auto ?_; rintro i H1 ⟨hl1, hal, hi⟩; refine vc_sr ?_; refine vr 1 ?_; refine vco_k [1, 15, 16, 17, 18] ?_; refine vc_seq ?_; refine vc_cond rfl (fun hb => ?_) (fun hb => ?_)
  ·
   have him : i < p.rows.length := by simpa using hb
   obtain ⟨r, hr⟩ : ∃ r, p.rows[i]? = some r := ⟨_, List.getElem?_eq_getElem him⟩; obtain ⟨A0, c0, f, A1, m1, c1, A2, m2, c2, hrp, hrx⟩ := hxR i r hr
   have hrel : p.lp.rel i = r.2.1 := by show (p.row i).2.1 = _; rw [Prg.row_get hr]
   obtain ⟨q, hqk⟩ : ∃ q, y[i]? = some q := ⟨_, List.getElem?_eq_getElem (by omega)⟩; obtain ⟨g, B1, k1, e1, B2, k2, e2, hraw, hqx⟩ := hxY i q hqk; have hfq : fn y i = q := fn_get hqk; refine vc_skip ?_; refine vc_keep [1, 15, 16, 17] rfl ?_; refine vc_seq ?_; refine vc_block ?_; refine vc_sr ?_; refine vr 1 ?_; refine vco_at_st (vs := [.slice A0 r.1.length c0, .int .i64 r.2.1, .bool f, .slice A1 m1 c1, .slice A2 m2 c2]) tbOk rfl rfl rfl rfl (hrR.le hl1) rfl (by decide) hrx (by omega) (by omega) fun _ => ?_; refine vco_alloc el33 rfl ?_; refine vr 1 ?_; obtain ⟨ti, hti, htz⟩ := sz33; refine vco_bstore (.inl ⟨rfl, rfl⟩) rfl rfl rfl hti htz rfl rfl rfl ?_; refine vco_k [1, 5, 6, 15, 16, 17] ?_; refine vc_sr ?_; refine vr 2 ?_; refine vco_at_st (vs := [.bool g, .slice B1 k1 e1, .slice B2 k2 e2]) tbOk rfl rfl rfl rfl (hrY.le hl1) rfl (by decide) hqx (by omega) (by omega) fun _ => ?_; refine vco_call rfl rfl (Sign_ok (hraw.le hl1) (by omega)) ?_; rintro v2 H2 ⟨hl2, rfl⟩; refine vr 1 ?_; refine vco_k [1, 6, 7, 15, 16, 17] ?_
   by_cases h3 : r.2.1 = 3
   ·
    skip
    by_cases hs : sgnQ q < 0
    ·
     skip
     refine vc_sr ?_; refine vr 2 ?_; refine vco_cmp true rfl rfl (ceq_t h3) ?_; refine vr 2 ?_; refine vco_cmp true rfl rfl (clt_t hs) ?_; refine vr 10 ?_; refine vco_k [1, 15, 16, 17, 42] ?_; refine vc_cond_t rfl ?_; refine vc_sr ?_; refine vr 1 ?_; refine vco_k [4] ?_; refine vc_ret ⟨.inr rfl, _, .tmp rfl (.nil), ?_⟩; exact ⟨hl1.trans hl2, false, rfl, ⟨(fun h => by cases h), (fun h => by have h9 := (h.2 i him).1 (by omega); rw [hfq] at h9; have h8 := sgn_ge.2 h9; omega)⟩⟩
    ·
     skip
     refine vc_sr ?_; refine vr 2 ?_; refine vco_cmp true rfl rfl (ceq_t h3) ?_; refine vr 2 ?_; refine vco_cmp false rfl rfl (clt_f (by omega)) ?_; refine vr 4 ?_; refine vco_cmp false rfl rfl (ceq_f (by omega)) ?_; refine vr 5 ?_; refine vco_k [1, 15, 16, 17, 42] ?_; refine vc_cond_f rfl ?_; refine vc_skip ?_; refine vc_keep [1, 15, 16, 17] rfl ?_; refine vc_region rfl ?_; refine vco_add rfl rfl ⟨by omega, by omega⟩ ?_; refine vr 1 ?_; refine vco_end ?_; exact ⟨i + 1, by omega, sub_auto, hl1.trans hl2, (fun k hk => by by_cases h9 : k < i; exact hal k h9; (obtain rfl : k = i := by omega); rw [hrel, hfq]; exact ⟨fun _ => sgn_ge.1 (by omega), fun e => by omega⟩), by omega⟩
   ·
    skip
    by_cases h1 : r.2.1 = 1
    ·
     skip
     by_cases hs : 0 < sgnQ q
     ·
      skip
      refine vc_sr ?_; refine vr 2 ?_; refine vco_cmp false rfl rfl (ceq_f h3) ?_; refine vr 7 ?_; refine vco_cmp true rfl rfl (ceq_t h1) ?_; refine vr 2 ?_; refine vco_cmp true rfl rfl (cgt_t hs) ?_; refine vr 2 ?_; refine vco_k [1, 15, 16, 17, 42] ?_; refine vc_cond_t rfl ?_; refine vc_sr ?_; refine vr 1 ?_; refine vco_k [4] ?_; refine vc_ret ⟨.inr rfl, _, .tmp rfl (.nil), ?_⟩; exact ⟨hl1.trans hl2, false, rfl, ⟨(fun h => by cases h), (fun h => by have h9 := (h.2 i him).2 (by omega); rw [hfq] at h9; have h8 := sgn_le.2 h9; omega)⟩⟩
     ·
      skip
      refine vc_sr ?_; refine vr 2 ?_; refine vco_cmp false rfl rfl (ceq_f h3) ?_; refine vr 7 ?_; refine vco_cmp true rfl rfl (ceq_t h1) ?_; refine vr 2 ?_; refine vco_cmp false rfl rfl (cgt_f (by omega)) ?_; refine vr 2 ?_; refine vco_k [1, 15, 16, 17, 42] ?_; refine vc_cond_f rfl ?_; refine vc_skip ?_; refine vc_keep [1, 15, 16, 17] rfl ?_; refine vc_region rfl ?_; refine vco_add rfl rfl ⟨by omega, by omega⟩ ?_; refine vr 1 ?_; refine vco_end ?_; exact ⟨i + 1, by omega, sub_auto, hl1.trans hl2, (fun k hk => by by_cases h9 : k < i; exact hal k h9; (obtain rfl : k = i := by omega); rw [hrel, hfq]; exact ⟨fun e => by omega, fun _ => sgn_le.1 (by omega)⟩), by omega⟩
    ·
     skip
     refine vc_sr ?_; refine vr 2 ?_; refine vco_cmp false rfl rfl (ceq_f h3) ?_; refine vr 7 ?_; refine vco_cmp false rfl rfl (ceq_f h1) ?_; refine vr 5 ?_; refine vco_k [1, 15, 16, 17, 42] ?_; refine vc_cond_f rfl ?_; refine vc_skip ?_; refine vc_keep [1, 15, 16, 17] rfl ?_; refine vc_region rfl ?_; refine vco_add rfl rfl ⟨by omega, by omega⟩ ?_; refine vr 1 ?_; refine vco_end ?_; exact ⟨i + 1, by omega, sub_auto, hl1.trans hl2, (fun k hk => by by_cases h9 : k < i; exact hal k h9; (obtain rfl : k = i := by omega); rw [hrel, hfq]; exact ⟨fun e => by omega, fun e => by omega⟩), by omega⟩
  ·
   have hb : p.rows.length ≤ i := by simpa using hb
   refine vc_exit ?_; refine vc_keep [] rfl ?_; refine vc_sr ?_; refine vr 1 ?_; refine vco_k [4] ?_; refine vc_ret ⟨.inr rfl, _, .tmp rfl (.nil), ?_⟩; exact ⟨hl1, true, rfl, ⟨(fun _ => ⟨rfl, fun k hk => hal k (Nat.lt_of_lt_of_le hk hb)⟩), fun _ => rfl⟩⟩
end Go.Eng
