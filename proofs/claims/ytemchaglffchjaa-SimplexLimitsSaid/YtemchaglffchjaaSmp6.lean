/- Walks over package simplex, simplex.go, part 6: CheckOptimal, CheckUnbounded. -/
import Derived.Test.YtemchaglffchjaaA10
import Derived.Test.YtemchaglffchjaaSmp5
set_option linter.unusedVariables false
namespace Go.Eng
open Go.Proofs Num Lp
theorem Feasible_yes {H : Heap} {v xv : Value} {p : Prg} {x : List Rat} {N : Nat} (hp : ProgV N H v p) (hx : SlV (RatP N) 3 H xv x) (hxN : (x.length : Int) ≤ 1099511627776) (hN : N ≤ 1299999998) (hf : PFeas p x) : Fn Try.prog 72 #[v, xv] H (fun v H' => Heap.le H H' ∧ v = .bool true) :=
  (Feasible_ok hp hx hxN hN).mono fun v H' ⟨h1, b, h2, h3⟩ => ⟨h1, by rw [h2, h3.2 hf]⟩
theorem Feasible_no {H : Heap} {v xv : Value} {p : Prg} {x : List Rat} {N : Nat} (hp : ProgV N H v p) (hx : SlV (RatP N) 3 H xv x) (hxN : (x.length : Int) ≤ 1099511627776) (hN : N ≤ 1299999998) (hf : ¬ PFeas p x) : Fn Try.prog 72 #[v, xv] H (fun v H' => Heap.le H H' ∧ v = .bool false) :=
  (Feasible_ok hp hx hxN hN).mono fun v H' ⟨h1, b, h2, h3⟩ => ⟨h1, by
    cases b with
    | false => exact h2
    | true => exact absurd (h3.1 rfl) hf⟩
theorem CheckOptimal_ok {H : Heap} {v cv xv yv : Value} {p : Prg} {c x y : List Rat} {N : Nat} (hp : ProgV N H v p) (hc : SlV (RatP N) 3 H cv c) (hx : SlV (RatP N) 3 H xv x) (hy : SlV (RatP N) 3 H yv y) (hxN : (x.length : Int) ≤ 1099511627776) (hN : N ≤ 400000000) :
  Fn Try.prog 39 #[v, cv, xv, yv] H (fun v H' => Heap.le H H' ∧ ∃ b, v = .bool b ∧ (b = true ↔ ChkOpt p c x y)) := by
 obtain ⟨fv, rv0, rfl, hfv, hrv0⟩ := id hp
 obtain ⟨Af, cf, xf, rfl, hrF, hxF⟩ := hfv.one
 obtain ⟨Ar, cr, xr, rfl, hrR, hxR⟩ := hrv0.row
 obtain ⟨Ay, cy, xy, rfl, hrY, hxY⟩ := hy.rat
 obtain ⟨Ac, cc, xc, rfl, hrC, hxC⟩ := hc.rat
 obtain ⟨Ax, cx, xx, rfl, hrX, hxX⟩ := hx.rat; refine fn_intro (args := [_, _, _, _]) Try.func39 rfl rfl Try.ntmps39 rfl rfl fun w0 => ?_; refine vc_keep [0, 1, 2, 3] rfl ?_; refine vc_sr ?_; refine vco_box rfl rfl ?_; refine vr 1 ?_; refine vco_k [1, 2, 3, 4] ?_; refine vc_seq ?_
 by_cases hf : PFeas p x
 ·
  skip
  by_cases hcl : c.length = p.free.length
  ·
   skip
   refine vc_sr ?_; refine vr 2 ?_; refine vco_call rfl rfl (Feasible_yes hp hx hxN (by omega) hf) ?_; rintro v1 H1 ⟨hl1, rfl⟩; refine vr 7 ?_; refine vco_cmp false rfl rfl (cne_f (by omega)) ?_; refine vr 4 ?_; refine vco_call rfl rfl (signed_ok (hp.le hl1) hf.ok (hy.le (ratUp N) hl1) (by omega)) ?_; rintro v2 H2 ⟨hl2, b2, rfl, hb2⟩; refine vr 2 ?_; refine vco_k [1, 2, 3, 4, 31] ?_; refine vc_cond rfl (fun hb => ?_) (fun hb => ?_)
   ·
    have hb : ¬ (y.length = p.rows.length ∧ p.lp.Signed (fn y)) := fun h => by have h9 := hb2.2 h; rw [h9] at hb; simp at hb
    refine vc_sr ?_; refine vr 1 ?_; refine vco_k [8] ?_; refine vc_ret ⟨.inr rfl, _, .tmp rfl (.nil), ?_⟩; exact ⟨hl1.trans hl2, false, rfl, ⟨(fun h => by cases h), (fun h => absurd ⟨h.ylen, h.cert.signed⟩ hb)⟩⟩
   ·
    have hsg := hb2.1 (by simpa using hb); have hok := hf.ok; have hn4 := hok.cols; have hm8 := hok.rows; obtain ⟨hz1, hz2⟩ := sums_sz hp hok hy hsg.1; have hl12 := hl1.trans hl2; refine vc_skip ?_; refine vc_keep [1, 2, 3, 4] rfl ?_; refine vc_sr ?_; refine vr 2 ?_; refine vco_call rfl rfl (sums_ok (hp.le hl12) hok (hy.le (ratUp N) hl12) hsg.1 (by omega)) ?_; rintro v3 H3 ⟨hl3, sv, ns, rfl, hsv, hns⟩; obtain ⟨n3, d3, b3, rfl⟩ := hns.cells; obtain ⟨As, cs, xs, rfl, hrs, hxs⟩ := hsv.num; rw [vals_len]; refine vr 3 ?_; refine vco_alloc el71 rfl ?_; refine vr 1 ?_; obtain ⟨ti, hti, htz⟩ := sz71; refine vco_bstore (.inl ⟨rfl, rfl⟩) rfl rfl rfl hti htz rfl rfl rfl ?_; refine vco_k [1, 2, 4, 9, 10] ?_; refine vc_seq ?_; refine vc_sr ?_; refine vr 4 ?_; refine vco_k [1, 2, 9, 10, 39, 40, 41] ?_; refine vc_block ?_; refine vc_loop1 (fun (i : Nat) => p.free.length - i) (fun (i : Nat) => put (put (put (put (put (put (put (emp) 1 (.val (.slice Ac c.length cc))) 2 (.val (.slice Ax x.length cx))) 9 (.val (.slice As p.free.length cs))) 10 (.box [.int .i64 n3, .int .i64 d3, .pointer b3])) 39 (.val (.slice Af p.free.length cf))) 40 (.val (.int .i64 (p.free.length : Int)))) 41 (.val (.int .i64 (i : Int)))) (fun (i : Nat) H' => Heap.le H3 H' ∧ (∀ k, k < i → 0 ≤ fn c k - p.lp.colsum (fn y) k ∧ (p.lp.free k = true → fn c k - p.lp.colsum (fn y) k ≤ 0)) ∧ i ≤ p.free.length) 0 (⟨.refl _, (fun j h => by omega), Nat.zero_le _⟩) sub_auto ?_; rintro i H4 ⟨hl4, hal, hi⟩
    have hlH := (hl12.trans hl3).trans hl4; refine vc_sr ?_; refine vr 1 ?_; refine vco_k [1, 2, 9, 10, 39, 40, 41, 42] ?_; refine vc_seq ?_; refine vc_cond rfl (fun hb => ?_) (fun hb => ?_)
    ·
     have hin : i < p.free.length := by simpa using hb
     obtain ⟨fb, hfb⟩ : ∃ fb, p.free[i]? = some fb := ⟨_, List.getElem?_eq_getElem hin⟩; obtain ⟨uf, huf, hufe⟩ := hxF i fb hfb
     cases hufe
     have hfr : p.lp.free i = fb := Prg.free_get hfb; obtain ⟨n1, d1, b1, hn1, hx1⟩ := hxs i _ (vals_get hin); have hzi := hz1 i; obtain ⟨q, hqk⟩ : ∃ q, c[i]? = some q := ⟨_, List.getElem?_eq_getElem (by omega)⟩; obtain ⟨g, B1, k1, e1, B2, k2, e2, hraw, hqx⟩ := hxC i q hqk; have hfq : fn c i = q := fn_get hqk; have hszq := hc.rsize q (List.mem_of_getElem? hqk); refine vc_skip ?_; refine vc_keep [1, 2, 9, 10, 39, 40, 41] rfl ?_; refine vc_seq ?_; refine vc_block ?_; refine vc_sr ?_; refine vr 1 ?_; refine vco_at tbOk rfl rfl rfl rfl rfl (hrF.le hlH) (by rw [Int.toNat_natCast]; exact huf) (by omega) (by omega) fun _ => ?_; refine vr 2 ?_; refine vco_k [1, 2, 9, 10, 11, 12, 39, 40, 41] ?_; refine vc_sd .drawB [0, 1, 2, 3, 5, 6, 7, 8, 4, 9, 10, 11] follows (by kernel_rfl) ?_; refine vr 2 ?_; refine vco_at_st (vs := [.bool g, .slice B1 k1 e1, .slice B2 k2 e2]) tbOk rfl rfl rfl rfl (hrC.le hlH) rfl (by decide) hqx (by omega) (by omega) fun _ => ?_; refine vr 2 ?_; refine vco_at_st (vs := [.int .i64 n1, .int .i64 d1, .pointer b1]) tbOk rfl rfl rfl rfl (hrs.le hl4) rfl (by decide) hx1 (by omega) (by omega) fun _ => ?_; refine vco_callM rfl rfl (sload_ok (hraw.le hlH) (by omega)) (fun _ _ h => by first | exact h.le | exact h.1) ?_; rintro _ H5 ⟨hl5, vs5, rfl, hn5⟩; obtain ⟨n5, d5, b5, rfl⟩ := hn5.cells; refine vco_callM rfl rfl (ssub_ok (N := 800 * (2 * (N + 2) + 2) + 1) hn5 (hn1.le (hl4.trans hl5)) (by omega) hzi (by omega)) (fun _ _ h => by first | exact h.le | exact h.1) ?_
     rintro _ H6 ⟨hl6, vs6, rfl, hn6⟩; obtain ⟨n6, d6, b6, rfl⟩ := hn6.cells; have hszs := szQ_sub q (p.lp.colsum (fn y) i); rw [← hfq] at hn6 hszs hszq; refine vco_callM rfl rfl (ssign_ok hn6 (by omega)) (fun _ _ h => by first | exact h.le | exact h.1) ?_; rintro v7 H7 ⟨hl7, rfl⟩; refine vr 1 ?_; refine vco_k [1, 2, 9, 10, 12, 13, 39, 40, 41] ?_
     by_cases hs : sgnQ (fn c i - p.lp.colsum (fn y) i) < 0
     ·
      skip
      refine vc_sr ?_; refine vr 1 ?_; refine vco_cmp true rfl rfl (clt_t hs) ?_; refine vr 7 ?_; refine vco_k [1, 2, 9, 10, 39, 40, 41, 65] ?_; refine vc_cond_t rfl ?_; refine vc_sr ?_; refine vr 1 ?_; refine vco_k [8] ?_; refine vc_ret ⟨.inr rfl, _, .tmp rfl (.nil), ?_⟩; exact ⟨((hlH.trans hl5).trans hl6).trans hl7, false, rfl, ⟨(fun h => by cases h), (fun h => by have h9 := sgn_ge.2 (h.cert.cols i hin).1; omega)⟩⟩
     ·
      have hge0 := sgn_ge.1 (show 0 ≤ sgnQ (fn c i - p.lp.colsum (fn y) i) by omega)
      cases fb
      ·
       skip
       refine vc_sr ?_; refine vr 1 ?_; refine vco_cmp false rfl rfl (clt_f (by omega)) ?_; refine vr 7 ?_; refine vco_k [1, 2, 9, 10, 39, 40, 41, 65] ?_; refine vc_cond_f rfl ?_; refine vc_skip ?_; refine vc_keep [1, 2, 9, 10, 39, 40, 41] rfl ?_; refine vc_region rfl ?_; refine vco_add rfl rfl ⟨by omega, by omega⟩ ?_; refine vr 1 ?_; refine vco_end ?_; exact ⟨i + 1, by omega, sub_auto, ((hl4.trans hl5).trans hl6).trans hl7, (fun k hk => by by_cases h9 : k < i; exact hal k h9; (obtain rfl : k = i := by omega); exact ⟨hge0, fun e => by rw [hfr] at e; cases e⟩), by omega⟩
      ·
       skip
       by_cases hs2 : 0 < sgnQ (fn c i - p.lp.colsum (fn y) i)
       ·
        skip
        refine vc_sr ?_; refine vr 1 ?_; refine vco_cmp false rfl rfl (clt_f (by omega)) ?_; refine vr 4 ?_; refine vco_cmp true rfl rfl (cgt_t hs2) ?_; refine vr 2 ?_; refine vco_k [1, 2, 9, 10, 39, 40, 41, 65] ?_; refine vc_cond_t rfl ?_; refine vc_sr ?_; refine vr 1 ?_; refine vco_k [8] ?_; refine vc_ret ⟨.inr rfl, _, .tmp rfl (.nil), ?_⟩; exact ⟨((hlH.trans hl5).trans hl6).trans hl7, false, rfl, ⟨(fun h => by cases h), (fun h => by have h9 := sgn_le.2 ((h.cert.cols i hin).2 hfr); omega)⟩⟩
       ·
        skip
        refine vc_sr ?_; refine vr 1 ?_; refine vco_cmp false rfl rfl (clt_f (by omega)) ?_; refine vr 4 ?_; refine vco_cmp false rfl rfl (cgt_f (by omega)) ?_; refine vr 2 ?_; refine vco_k [1, 2, 9, 10, 39, 40, 41, 65] ?_; refine vc_cond_f rfl ?_; refine vc_skip ?_; refine vc_keep [1, 2, 9, 10, 39, 40, 41] rfl ?_; refine vc_region rfl ?_; refine vco_add rfl rfl ⟨by omega, by omega⟩ ?_; refine vr 1 ?_; refine vco_end ?_; exact ⟨i + 1, by omega, sub_auto, ((hl4.trans hl5).trans hl6).trans hl7, (fun k hk => by by_cases h9 : k < i; exact hal k h9; (obtain rfl : k = i := by omega); exact ⟨hge0, fun _ => sgn_le.1 (by omega)⟩), by omega⟩
    ·
     have hb : p.free.length ≤ i := by simpa using hb
     have hxl := hf.len; refine vc_exit ?_; refine vc_keep [1, 2, 10] rfl ?_; refine vc_sd .drawB [0, 1, 3, 2, 4, 5, 6, 7, 8, 9] follows (by kernel_rfl) ?_; refine vr 3 ?_; refine vco_callM rfl rfl (svector_ok (hc.le (ratUp N) hlH) (by omega) (by omega)) (fun _ _ h => by first | exact h.le | exact h.1) ?_; rintro v8 H8 ⟨hl8, hs8⟩; refine vco_callM rfl rfl (svector_ok (hx.le (ratUp N) (hlH.trans hl8)) (by omega) (by omega)) (fun _ _ h => by first | exact h.le | exact h.1) ?_; rintro v9 H9 ⟨hl9, hs9⟩; refine vco_callM rfl rfl (sdot_ok (s := N + 2) (hs8.le numUp hl9) hs9 (by omega) hc.rsize hx.rsize (by rw [hcl]; have h9 : ((p.free.length : Int) + 2) * (2 * ((N + 2 : Nat) : Int) + 2) ≤ 402 * (2 * ((N + 2 : Nat) : Int) + 2) := Int.mul_le_mul_of_nonneg_right (by omega) (by omega); omega)) (fun _ _ h => by first | exact h.le | exact h.1) ?_; rintro _ H10 ⟨hl10, vs10, rfl, hn10⟩; obtain ⟨n10, d10, b10, rfl⟩ := hn10.cells; have hsz10 := dot_sz (M := N + 2) c.length (fn c) (fn x) (fun j hj => hc.rsize _ (fn_mem hj)) (fun j hj => hx.rsize _ (fn_mem (by omega))); have hsz11 : c.length * (2 * (N + 2) + 2) ≤ 400 * (2 * (N + 2) + 2) := Nat.mul_le_mul_right _ (by omega); refine vco_callM rfl rfl (ssub_ok (N := 800 * (2 * (N + 2) + 2) + 1) (hns.le (((hl4.trans hl8).trans hl9).trans hl10)) hn10 hz2 (by omega) (by omega)) (fun _ _ h => by first | exact h.le | exact h.1) ?_; rintro _ H11 ⟨hl11, vs11, rfl, hn11⟩; obtain ⟨n11, d11, b11, rfl⟩ := hn11.cells; have hszs := szQ_sub (p.lp.bndsum (fn y)) (dotN c.length (fn c) (fn x))
     refine vco_callM rfl rfl (ssign_ok hn11 (by omega)) (fun _ _ h => by first | exact h.le | exact h.1) ?_; rintro v12 H12 ⟨hl12b, rfl⟩; refine vr 2 ?_; refine vco_k [8] ?_; refine vc_ret ⟨.inr rfl, _, .tmp rfl (.nil), ?_⟩; exact ⟨((((hlH.trans hl8).trans hl9).trans hl10).trans hl11).trans hl12b, _, rfl, by simp only [beq_iff_eq, sgn_eq]; rw [hcl]; exact ⟨fun h => ⟨hf, hcl, hsg.1, ⟨hf.meets, hsg.2, fun j hj => hal j (Nat.lt_of_lt_of_le hj hb), (show p.lp.bndsum (fn y) = dotN p.free.length (fn c) (fn x) by grind)⟩⟩, fun h => by have h9 : p.lp.bndsum (fn y) = dotN p.free.length (fn c) (fn x) := h.cert.eq; grind⟩⟩
  ·
   skip
   refine vc_sr ?_; refine vr 2 ?_; refine vco_call rfl rfl (Feasible_yes hp hx hxN (by omega) hf) ?_; rintro v1 H1 ⟨hl1, rfl⟩; refine vr 7 ?_; refine vco_cmp true rfl rfl (cne_t (by omega)) ?_; refine vr 7 ?_; refine vco_k [1, 2, 3, 4, 31] ?_; refine vc_cond_t rfl ?_; refine vc_sr ?_; refine vr 1 ?_; refine vco_k [8] ?_; refine vc_ret ⟨.inr rfl, _, .tmp rfl (.nil), ?_⟩; exact ⟨hl1, false, rfl, ⟨(fun h => by cases h), (fun h => absurd h.clen hcl)⟩⟩
 ·
  skip
  refine vc_sr ?_; refine vr 2 ?_; refine vco_call rfl rfl (Feasible_no hp hx hxN (by omega) hf) ?_; rintro v1 H1 ⟨hl1, rfl⟩; refine vr 15 ?_; refine vco_k [1, 2, 3, 4, 31] ?_; refine vc_cond_t rfl ?_; refine vc_sr ?_; refine vr 1 ?_; refine vco_k [8] ?_; refine vc_ret ⟨.inr rfl, _, .tmp rfl (.nil), ?_⟩; exact ⟨hl1, false, rfl, ⟨(fun h => by cases h), (fun h => absurd h.feas hf)⟩⟩
end Go.Eng
