/- Walks over package simplex, simplex.go, part 5: CheckInfeasible, CheckUnbounded. -/
import Derived.Test.YtemchaglffchjaaA10
import Derived.Test.YtemchaglffchjaaSmp4
set_option linter.unusedVariables false
namespace Go.Eng
open Go.Proofs Num Lp
theorem sums_sz {H : Heap} {v yv : Value} {p : Prg} {y : List Rat} {N : Nat} (hp : ProgV N H v p) (hok : p.Ok) (hy : SlV (RatP N) 3 H yv y) (hyl : y.length = p.rows.length) : (∀ j, szQ (p.lp.colsum (fn y) j) ≤ 800 * (2 * (N + 2) + 2) + 1) ∧ szQ (p.lp.bndsum (fn y)) ≤ 800 * (2 * (N + 2) + 2) + 1 := by
  obtain ⟨fv, rv0, rfl, hfv, hrv0⟩ := id hp
  obtain ⟨Ar, cr, xr, rfl, hrR, hxR⟩ := hrv0.row
  have hyM := hy.rsize
  have hm8 := hok.rows
  have haM : ∀ (i : Nat) (r : List Rat × Int × Rat), p.rows[i]? = some r → ∀ q, q ∈ r.1 → szQ q ≤ N + 2 := fun i r hr => by
    obtain ⟨A0, c0, f, A1, m1, c1, A2, m2, c2, hrp, hrx⟩ := hxR i r hr
    exact RowP.size hrp
  have h8 : p.rows.length * (2 * (N + 2) + 2) ≤ 800 * (2 * (N + 2) + 2) := Nat.mul_le_mul_right _ hm8
  refine ⟨fun j => ?_, ?_⟩
  · have h9 := dot_sz (M := N + 2) p.rows.length (fn y) (fun k => p.lp.a k j) (fun k hk => hyM _ (fn_mem (by omega))) (fun k hk => Prg.a_sz haM (by omega) k j (by omega))
    exact Nat.le_trans h9 (by omega)
  · have h9 := dot_sz (M := N + 2) p.rows.length (fn y) p.lp.b (fun k hk => hyM _ (fn_mem (by omega))) (fun k hk => by
      obtain ⟨A0, c0, f, A1, m1, c1, A2, m2, c2, hrp, hrx⟩ := hxR k _ (List.getElem?_eq_getElem hk)
      have h7 := (RowP.bound hrp).size
      show szQ (p.row k).2.2 ≤ _
      rw [Prg.row_get (List.getElem?_eq_getElem hk)]; exact h7)
    exact Nat.le_trans h9 (by omega)
theorem CheckInfeasible_ok {H : Heap} {v yv : Value} {p : Prg} {y : List Rat} {N : Nat} (hp : ProgV N H v p) (hy : SlV (RatP N) 3 H yv y) (hN : N ≤ 600000000) :
  Fn Try.prog 44 #[v, yv] H (fun v H' => Heap.le H H' ∧ ∃ b, v = .bool b ∧ (b = true ↔ ChkInf p y)) := by
 obtain ⟨fv, rv0, rfl, hfv, hrv0⟩ := id hp
 obtain ⟨Af, cf, xf, rfl, hrF, hxF⟩ := hfv.one
 obtain ⟨Ar, cr, xr, rfl, hrR, hxR⟩ := hrv0.row
 obtain ⟨Ay, cy, xy, rfl, hrY, hxY⟩ := hy.rat; refine fn_intro (args := [_, _]) Try.func44 rfl rfl Try.ntmps44 rfl rfl fun w0 => ?_; refine vc_keep [0, 1] rfl ?_; refine vc_sr ?_; refine vco_box rfl rfl ?_; refine vr 1 ?_; refine vco_k [1, 2] ?_; refine vc_seq ?_
 by_cases hok : p.Ok
 ·
  skip
  refine vc_sr ?_; refine vr 1 ?_; refine vco_call rfl rfl (Valid_yes hp hok) ?_; rintro v1 H1 ⟨e1, rfl⟩; rw [e1]; refine vr 4 ?_; refine vco_call rfl rfl (signed_ok hp hok hy (by omega)) ?_; rintro v2 H2 ⟨hl2, b2, rfl, hb2⟩; refine vr 2 ?_; refine vco_k [1, 2, 18] ?_; refine vc_cond rfl (fun hb => ?_) (fun hb => ?_)
  ·
   have hb : ¬ (y.length = p.rows.length ∧ p.lp.Signed (fn y)) := fun h => by have h9 := hb2.2 h; rw [h9] at hb; simp at hb
   refine vc_sr ?_; refine vr 1 ?_; refine vco_k [4] ?_; refine vc_ret ⟨.inr rfl, _, .tmp rfl (.nil), ?_⟩; exact ⟨hl2, false, rfl, ⟨(fun h => by cases h), (fun h => absurd ⟨h.ylen, h.cert.signed⟩ hb)⟩⟩
  ·
   have hsg := hb2.1 (by simpa using hb); have hn4 := hok.cols; have hm8 := hok.rows; obtain ⟨hz1, hz2⟩ := sums_sz hp hok hy hsg.1; refine vc_skip ?_; refine vc_keep [1, 2] rfl ?_; refine vc_sr ?_; refine vr 2 ?_; refine vco_call rfl rfl (sums_ok (hp.le hl2) hok (hy.le (ratUp N) hl2) hsg.1 hN) ?_; rintro v3 H3 ⟨hl3, sv, ns, rfl, hsv, hns⟩; obtain ⟨n3, d3, b3, rfl⟩ := hns.cells; obtain ⟨As, cs, xs, rfl, hrs, hxs⟩ := hsv.num; rw [vals_len]; refine vr 3 ?_; refine vco_alloc el71 rfl ?_; refine vr 1 ?_; obtain ⟨ti, hti, htz⟩ := sz71; refine vco_bstore (.inl ⟨rfl, rfl⟩) rfl rfl rfl hti htz rfl rfl rfl ?_; refine vco_k [2, 5, 6] ?_; refine vc_seq ?_; refine vc_sr ?_; refine vr 4 ?_; refine vco_k [5, 6, 26, 27, 28] ?_; refine vc_block ?_; refine vc_loop1 (fun (i : Nat) => p.free.length - i) (fun (i : Nat) => put (put (put (put (put (emp) 5 (.val (.slice As p.free.length cs))) 6 (.box [.int .i64 n3, .int .i64 d3, .pointer b3])) 26 (.val (.slice Af p.free.length cf))) 27 (.val (.int .i64 (p.free.length : Int)))) 28 (.val (.int .i64 (i : Int)))) (fun (i : Nat) H' => Heap.le H3 H' ∧ (∀ k, k < i → p.lp.colsum (fn y) k ≤ 0 ∧ (p.lp.free k = true → 0 ≤ p.lp.colsum (fn y) k)) ∧ i ≤ p.free.length) 0 (⟨.refl _, (fun j h => by omega), Nat.zero_le _⟩) sub_auto ?_; rintro i H4 ⟨hl4, hal, hi⟩; have hlH := (hl2.trans hl3).trans hl4; refine vc_sr ?_; refine vr 1 ?_; refine vco_k [5, 6, 26, 27, 28, 29] ?_; refine vc_seq ?_; refine vc_cond rfl (fun hb => ?_) (fun hb => ?_)
   ·
    have hin : i < p.free.length := by simpa using hb
    obtain ⟨fb, hfb⟩ : ∃ fb, p.free[i]? = some fb := ⟨_, List.getElem?_eq_getElem hin⟩; obtain ⟨uf, huf, hufe⟩ := hxF i fb hfb
    cases hufe
    have hfr : p.lp.free i = fb := Prg.free_get hfb; obtain ⟨n1, d1, b1, hn1, hx1⟩ := hxs i _ (vals_get hin); have hzi := hz1 i; refine vc_skip ?_; refine vc_keep [5, 6, 26, 27, 28] rfl ?_; refine vc_seq ?_; refine vc_block ?_; refine vc_sr ?_; refine vr 1 ?_; refine vco_at tbOk rfl rfl rfl rfl rfl (hrF.le hlH) (by rw [Int.toNat_natCast]; exact huf) (by omega) (by omega) fun _ => ?_; refine vr 2 ?_; refine vco_k [5, 6, 7, 8, 26, 27, 28] ?_; refine vc_sr ?_; refine vr 2 ?_; refine vco_at_st (vs := [.int .i64 n1, .int .i64 d1, .pointer b1]) tbOk rfl rfl rfl rfl (hrs.le hl4) rfl (by decide) hx1 (by omega) (by omega) fun _ => ?_; refine vco_call rfl rfl (ssign_ok (hn1.le hl4) (by omega)) ?_; rintro v5 H5 ⟨hl5, rfl⟩; refine vr 1 ?_; refine vco_k [5, 6, 8, 9, 26, 27, 28] ?_
    by_cases hs : 0 < sgnQ (p.lp.colsum (fn y) i)
    ·
     skip
     refine vc_sr ?_; refine vr 1 ?_; refine vco_cmp true rfl rfl (cgt_t hs) ?_; refine vr 7 ?_; refine vco_k [5, 6, 26, 27, 28, 46] ?_; refine vc_cond_t rfl ?_; refine vc_sr ?_; refine vr 1 ?_; refine vco_k [4] ?_; refine vc_ret ⟨.inr rfl, _, .tmp rfl (.nil), ?_⟩; exact ⟨hlH.trans hl5, false, rfl, ⟨(fun h => by cases h), (fun h => by have h9 := sgn_le.2 (h.cert.cols i hin).1; omega)⟩⟩
    ·
     have hle0 := sgn_le.1 (show sgnQ (p.lp.colsum (fn y) i) ≤ 0 by omega)
     cases fb
     ·
      skip
      refine vc_sr ?_; refine vr 1 ?_; refine vco_cmp false rfl rfl (cgt_f (by omega)) ?_; refine vr 7 ?_; refine vco_k [5, 6, 26, 27, 28, 46] ?_; refine vc_cond_f rfl ?_; refine vc_skip ?_; refine vc_keep [5, 6, 26, 27, 28] rfl ?_; refine vc_region rfl ?_; refine vco_add rfl rfl ⟨by omega, by omega⟩ ?_; refine vr 1 ?_; refine vco_end ?_; exact ⟨i + 1, by omega, sub_auto, hl4.trans hl5, (fun k hk => by by_cases h9 : k < i; exact hal k h9; (obtain rfl : k = i := by omega); exact ⟨hle0, fun e => by rw [hfr] at e; cases e⟩), by omega⟩
     ·
      skip
      by_cases hs2 : sgnQ (p.lp.colsum (fn y) i) < 0
      ·
       skip
       refine vc_sr ?_; refine vr 1 ?_; refine vco_cmp false rfl rfl (cgt_f (by omega)) ?_; refine vr 4 ?_; refine vco_cmp true rfl rfl (clt_t hs2) ?_; refine vr 2 ?_; refine vco_k [5, 6, 26, 27, 28, 46] ?_; refine vc_cond_t rfl ?_; refine vc_sr ?_; refine vr 1 ?_; refine vco_k [4] ?_; refine vc_ret ⟨.inr rfl, _, .tmp rfl (.nil), ?_⟩; exact ⟨hlH.trans hl5, false, rfl, ⟨(fun h => by cases h), (fun h => by have h9 := sgn_ge.2 ((h.cert.cols i hin).2 hfr); omega)⟩⟩
      ·
       skip
       refine vc_sr ?_; refine vr 1 ?_; refine vco_cmp false rfl rfl (cgt_f (by omega)) ?_; refine vr 4 ?_; refine vco_cmp false rfl rfl (clt_f (by omega)) ?_; refine vr 2 ?_; refine vco_k [5, 6, 26, 27, 28, 46] ?_; refine vc_cond_f rfl ?_; refine vc_skip ?_; refine vc_keep [5, 6, 26, 27, 28] rfl ?_; refine vc_region rfl ?_; refine vco_add rfl rfl ⟨by omega, by omega⟩ ?_; refine vr 1 ?_; refine vco_end ?_; exact ⟨i + 1, by omega, sub_auto, hl4.trans hl5, (fun k hk => by by_cases h9 : k < i; exact hal k h9; (obtain rfl : k = i := by omega); exact ⟨hle0, fun _ => sgn_ge.1 (by omega)⟩), by omega⟩
   ·
    have hb : p.free.length ≤ i := by simpa using hb
    refine vc_exit ?_; refine vc_keep [6] rfl ?_; refine vc_sr ?_; refine vr 1 ?_; refine vco_call rfl rfl (ssign_ok (hns.le hl4) (by omega)) ?_; rintro v6 H6 ⟨hl6, rfl⟩; refine vr 2 ?_; refine vco_k [4] ?_; refine vc_ret ⟨.inr rfl, _, .tmp rfl (.nil), ?_⟩; exact ⟨hlH.trans hl6, _, rfl, by simp only [decide_eq_true_eq, gt_iff_lt, sgn_gt]; exact ⟨fun h => ⟨hok, hsg.1, ⟨hsg.2, fun j hj => hal j (Nat.lt_of_lt_of_le hj hb), h⟩⟩, fun h => h.cert.pos⟩⟩
 ·
  skip
  refine vc_sr ?_; refine vr 1 ?_; refine vco_call rfl rfl (Valid_no hp hok) ?_; rintro v1 H1 ⟨e1, rfl⟩; rw [e1]; refine vr 7 ?_; refine vco_k [1, 2, 18] ?_; refine vc_cond_t rfl ?_; refine vc_sr ?_; refine vr 1 ?_; refine vco_k [4] ?_; refine vc_ret ⟨.inr rfl, _, .tmp rfl (.nil), ?_⟩; exact ⟨.refl _, false, rfl, ⟨(fun h => by cases h), (fun h => absurd h.ok hok)⟩⟩
end Go.Eng
