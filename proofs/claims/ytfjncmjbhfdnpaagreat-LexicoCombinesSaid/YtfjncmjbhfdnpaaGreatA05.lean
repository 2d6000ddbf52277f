/- Part 5 of the proof: Num2, Num3, Bd, TDat, Tab1, TDat2, Tab2. -/
import Derived.Test.YtfjncmjbhfdnpaaGreatA04
set_option linter.unusedVariables false
/- Walks over package simplex, number.go, part 2. -/
namespace Go.Eng
open Go.Proofs Num
theorem add_nd (p q : Rat) : ((p.num * (q.den : Int) + q.num * (p.den : Int) : Int) : Rat) / (((p.den : Int) * (q.den : Int) : Int) : Rat) = p + q := by
  have h1 := rat_nd p
  have h2 := rat_nd q
  have h3 := den_ne p
  have h4 := den_ne q
  rw [Rat.intCast_add, Rat.intCast_mul, Rat.intCast_mul, Rat.intCast_mul]
  grind
theorem mul_nd (p q : Rat) : ((p.num * q.num : Int) : Rat) / (((p.den : Int) * (q.den : Int) : Int) : Rat) = p * q := by
  have h1 := rat_nd p
  have h2 := rat_nd q
  have h3 := den_ne p
  have h4 := den_ne q
  rw [Rat.intCast_mul, Rat.intCast_mul]
  grind
theorem num_ne {q : Rat} (h : q ≠ 0) : ((q.num : Int) : Rat) ≠ 0 := fun e => h (by
  have : q.num = 0 := by exact_mod_cast e
  exact Rat.num_eq_zero.1 this)
theorem div_nd (p : Rat) {q : Rat} (h : q ≠ 0) : ((p.num * (q.den : Int) : Int) : Rat) / (((p.den : Int) * q.num : Int) : Rat) = p / q := by
  have h1 := rat_nd p
  have h2 := rat_nd q
  have h3 := den_ne p
  have h4 := den_ne q
  have h5 := num_ne h
  rw [Rat.intCast_mul, Rat.intCast_mul]
  grind
theorem div_nd' (p : Rat) {q : Rat} (h : q ≠ 0) : ((-p.num * (q.den : Int) : Int) : Rat) / ((-(p.den : Int) * q.num : Int) : Rat) = p / q := by
  rw [← div_nd p h, Int.neg_mul, Int.neg_mul, Rat.intCast_neg, Rat.intCast_neg]
  grind
theorem sadd_ok {H : Heap} {us vs : List Value} {p q : Rat} {N : Nat} (hu : NumV H us p) (hv : NumV H vs q) (h1 : szQ p ≤ N) (h2 : szQ q ≤ N) (hN : (N : Int) ≤ 1099511627776) :
  Fn Tryz.prog 183 #[.agg us.toArray, .agg vs.toArray] H (RetM H (p + q)) := by
 obtain ⟨n1, d1, b1, rfl, hb1⟩ := id hu
 obtain ⟨n2, d2, b2, rfl, hb2⟩ := id hv; refine fn_intro (args := [_, _]) Tryz.func183 rfl rfl Tryz.ntmps183 rfl rfl fun w0 => ?_; refine vc_keep [0, 1] rfl ?_; refine vc_sr ?_; refine vco_box rfl rfl ?_; refine vco_box rfl rfl ?_; refine vco_alloc el90 rfl ?_; refine vco_k [2, 3, 4] ?_; refine vc_seq ?_
 cases hfa : fitsB n1 d1 b1
 ·
  skip
  refine vc_sr ?_; refine vr 1 ?_; refine vco_call rfl rfl (sfits_e) ?_; rintro v1 H1 ⟨e1, rfl⟩; rw [e1, hfa]; refine vr 4 ?_; refine vco_k [2, 3, 4, 10] ?_; refine vc_cond_f rfl ?_; refine vc_skip ?_; refine vc_keep [2, 3, 4] rfl ?_; refine vc_sd .drawB [0, 2, 1, 3, 4, 5, 6] follows (by kernel_rfl) ?_; refine vr 2 ?_; refine vco_callM rfl rfl (srat_ok hu) (fun _ _ h => by first | exact h.le | exact h.1) ?_; rintro w1 G1 ⟨hlg1, hq1⟩; obtain ⟨u1, x1, rfl, hu1, hx1⟩ := id hq1; obtain ⟨Ahu1, chu1, rfl, hchu1, hrhu1⟩ := id hu1; obtain ⟨Ahx1, chx1, rfl, hchx1, hrhx1⟩ := id hx1; refine vco_callM rfl rfl (srat_ok (hv.le hlg1)) (fun _ _ h => by first | exact h.le | exact h.1) ?_; rintro w2 G2 ⟨hlg2, hq2⟩; obtain ⟨u2, x2, rfl, hu2, hx2⟩ := id hq2; obtain ⟨Ahu2, chu2, rfl, hchu2, hrhu2⟩ := id hu2; obtain ⟨Ahx2, chx2, rfl, hchx2, hrhx2⟩ := id hx2; refine vco_callM rfl rfl (Add_ok (N := N) ((hq1.le hlg2).raw.mono h1) (hq2.raw.mono h2) hN) (fun _ _ h => by first | exact h.le | exact h.1) ?_; rintro w3 G3 ⟨hlg3, hq3⟩; obtain ⟨u3, x3, rfl, hu3, hx3⟩ := id hq3; obtain ⟨Ahu3, chu3, rfl, hchu3, hrhu3⟩ := id hu3; obtain ⟨Ahx3, chx3, rfl, hchx3, hrhx3⟩ := id hx3; refine vco_callM rfl rfl (scanonical_ok hq3) (fun _ _ h => by first | exact h.le | exact h.1) ?_; rintro w4 G4 ⟨hlg4, vs4, rfl, hq4⟩; obtain ⟨n4, d4, b4, rfl, _⟩ := id hq4; obtain ⟨ti, hti, htz⟩ := sz90; refine vco_bstore (.inl ⟨rfl, rfl⟩) rfl rfl rfl hti htz rfl rfl rfl ?_; refine vco_k [4] ?_; obtain ⟨ri0, rhi0, rhz0⟩ := sz90; refine vc_ret ⟨.inr rfl, _, .agg rfl Tryz.underlying90 rhi0 rhz0 (.nil), ?_⟩
  exact ⟨((hlg1.trans hlg2).trans hlg3).trans hlg4, _, rfl, hq4⟩
 ·
  skip
  cases hfb : fitsB n2 d2 b2
  ·
   skip
   refine vc_sr ?_; refine vr 1 ?_; refine vco_call rfl rfl (sfits_e) ?_; rintro v1 H1 ⟨e1, rfl⟩; rw [e1, hfa]; refine vr 2 ?_; refine vco_call rfl rfl (sfits_e) ?_; rintro v1 H1 ⟨e1, rfl⟩; rw [e1, hfb]; refine vr 1 ?_; refine vco_k [2, 3, 4, 10] ?_; refine vc_cond_f rfl ?_; refine vc_skip ?_; refine vc_keep [2, 3, 4] rfl ?_; refine vc_sd .drawB [0, 2, 1, 3, 4, 5, 6] follows (by kernel_rfl) ?_; refine vr 2 ?_; refine vco_callM rfl rfl (srat_ok hu) (fun _ _ h => by first | exact h.le | exact h.1) ?_; rintro w1 G1 ⟨hlg1, hq1⟩; obtain ⟨u1, x1, rfl, hu1, hx1⟩ := id hq1; obtain ⟨Ahu1, chu1, rfl, hchu1, hrhu1⟩ := id hu1; obtain ⟨Ahx1, chx1, rfl, hchx1, hrhx1⟩ := id hx1; refine vco_callM rfl rfl (srat_ok (hv.le hlg1)) (fun _ _ h => by first | exact h.le | exact h.1) ?_; rintro w2 G2 ⟨hlg2, hq2⟩; obtain ⟨u2, x2, rfl, hu2, hx2⟩ := id hq2; obtain ⟨Ahu2, chu2, rfl, hchu2, hrhu2⟩ := id hu2; obtain ⟨Ahx2, chx2, rfl, hchx2, hrhx2⟩ := id hx2; refine vco_callM rfl rfl (Add_ok (N := N) ((hq1.le hlg2).raw.mono h1) (hq2.raw.mono h2) hN) (fun _ _ h => by first | exact h.le | exact h.1) ?_; rintro w3 G3 ⟨hlg3, hq3⟩; obtain ⟨u3, x3, rfl, hu3, hx3⟩ := id hq3; obtain ⟨Ahu3, chu3, rfl, hchu3, hrhu3⟩ := id hu3; obtain ⟨Ahx3, chx3, rfl, hchx3, hrhx3⟩ := id hx3; refine vco_callM rfl rfl (scanonical_ok hq3) (fun _ _ h => by first | exact h.le | exact h.1) ?_; rintro w4 G4 ⟨hlg4, vs4, rfl, hq4⟩; obtain ⟨n4, d4, b4, rfl, _⟩ := id hq4; obtain ⟨ti, hti, htz⟩ := sz90; refine vco_bstore (.inl ⟨rfl, rfl⟩) rfl rfl rfl hti htz rfl rfl rfl ?_
   refine vco_k [4] ?_; obtain ⟨ri0, rhi0, rhz0⟩ := sz90; refine vc_ret ⟨.inr rfl, _, .agg rfl Tryz.underlying90 rhi0 rhz0 (.nil), ?_⟩; exact ⟨((hlg1.trans hlg2).trans hlg3).trans hlg4, _, rfl, hq4⟩
  ·
   obtain ⟨rfl, k1, k2, k3⟩ := fitsB_iff.1 hfa; obtain ⟨rfl, k4, k5, k6⟩ := fitsB_iff.1 hfb; obtain ⟨-, rfl, rfl, -⟩ := hb1.resolve_right (by rintro ⟨ad, f, u, w, h, _⟩; cases h); obtain ⟨-, rfl, rfl, -⟩ := hb2.resolve_right (by rintro ⟨ad, f, u, w, h, _⟩; cases h); have hp1 := den_pos p; have hp2 := den_pos q; have m1 := mul31 (a := p.num) (b := q.den) k1 k2 (by omega) k6; have m2 := mul31 (a := q.num) (b := p.den) k4 k5 (by omega) k3; have m3 := mul31 (a := p.den) (b := q.den) (by omega) k3 (by omega) k6; have m4 : 0 < (p.den : Int) * (q.den : Int) := Int.mul_pos (by omega) (by omega); refine vc_sr ?_; refine vr 1 ?_; refine vco_call rfl rfl (sfits_e) ?_; rintro v1 H1 ⟨e1, rfl⟩; rw [e1, hfa]; refine vr 2 ?_; refine vco_call rfl rfl (sfits_e) ?_; rintro v1 H1 ⟨e1, rfl⟩; rw [e1, hfb]; refine vr 1 ?_; refine vco_k [2, 3, 4, 10] ?_; refine vc_cond_t rfl ?_; refine vc_sr ?_; refine vr 4 ?_; refine vco_mul rfl rfl ⟨by omega, by omega⟩ ?_; refine vr 4 ?_; refine vco_mul rfl rfl ⟨by omega, by omega⟩ ?_; refine vco_add rfl rfl ⟨by omega, by omega⟩ ?_; refine vr 4 ?_; refine vco_mul rfl rfl ⟨by omega, by omega⟩ ?_; refine vco_call rfl rfl (sratio_ok (by omega) (by omega) m4 (by omega)) ?_; rintro w1 G1 ⟨hlg1, vs1, rfl, hq1⟩; rw [add_nd] at hq1; obtain ⟨n1, d1, b1, rfl, _⟩ := id hq1; obtain ⟨ti, hti, htz⟩ := sz90; refine vco_bstore (.inl ⟨rfl, rfl⟩) rfl rfl rfl hti htz rfl rfl rfl ?_; refine vco_k [4] ?_
   obtain ⟨ri0, rhi0, rhz0⟩ := sz90; refine vc_ret ⟨.inr rfl, _, .agg rfl Tryz.underlying90 rhi0 rhz0 (.nil), ?_⟩; exact ⟨hlg1, _, rfl, hq1⟩
theorem smul_ok {H : Heap} {us vs : List Value} {p q : Rat} {N : Nat} (hu : NumV H us p) (hv : NumV H vs q) (h1 : szQ p ≤ N) (h2 : szQ q ≤ N) (hN : (N : Int) ≤ 1099511627776) :
  Fn Tryz.prog 128 #[.agg us.toArray, .agg vs.toArray] H (RetM H (p * q)) := by
 obtain ⟨n1, d1, b1, rfl, hb1⟩ := id hu
 obtain ⟨n2, d2, b2, rfl, hb2⟩ := id hv; refine fn_intro (args := [_, _]) Tryz.func128 rfl rfl Tryz.ntmps128 rfl rfl fun w0 => ?_; refine vc_keep [0, 1] rfl ?_; refine vc_sr ?_; refine vco_box rfl rfl ?_; refine vco_box rfl rfl ?_; refine vco_alloc el90 rfl ?_; refine vco_k [2, 3, 4] ?_; refine vc_seq ?_
 cases hfa : fitsB n1 d1 b1
 ·
  skip
  refine vc_sr ?_; refine vr 1 ?_; refine vco_call rfl rfl (sfits_e) ?_; rintro v1 H1 ⟨e1, rfl⟩; rw [e1, hfa]; refine vr 4 ?_; refine vco_k [2, 3, 4, 10] ?_; refine vc_cond_f rfl ?_; refine vc_skip ?_; refine vc_keep [2, 3, 4] rfl ?_; refine vc_sd .drawB [0, 2, 1, 3, 4, 5, 6] follows (by kernel_rfl) ?_; refine vr 2 ?_; refine vco_callM rfl rfl (srat_ok hu) (fun _ _ h => by first | exact h.le | exact h.1) ?_; rintro w1 G1 ⟨hlg1, hq1⟩; obtain ⟨u1, x1, rfl, hu1, hx1⟩ := id hq1; obtain ⟨Ahu1, chu1, rfl, hchu1, hrhu1⟩ := id hu1; obtain ⟨Ahx1, chx1, rfl, hchx1, hrhx1⟩ := id hx1; refine vco_callM rfl rfl (srat_ok (hv.le hlg1)) (fun _ _ h => by first | exact h.le | exact h.1) ?_; rintro w2 G2 ⟨hlg2, hq2⟩; obtain ⟨u2, x2, rfl, hu2, hx2⟩ := id hq2; obtain ⟨Ahu2, chu2, rfl, hchu2, hrhu2⟩ := id hu2; obtain ⟨Ahx2, chx2, rfl, hchx2, hrhx2⟩ := id hx2; refine vco_callM rfl rfl (Mul_ok (N := N) ((hq1.le hlg2).raw.mono h1) (hq2.raw.mono h2) hN) (fun _ _ h => by first | exact h.le | exact h.1) ?_; rintro w3 G3 ⟨hlg3, hq3⟩; obtain ⟨u3, x3, rfl, hu3, hx3⟩ := id hq3; obtain ⟨Ahu3, chu3, rfl, hchu3, hrhu3⟩ := id hu3; obtain ⟨Ahx3, chx3, rfl, hchx3, hrhx3⟩ := id hx3; refine vco_callM rfl rfl (scanonical_ok hq3) (fun _ _ h => by first | exact h.le | exact h.1) ?_; rintro w4 G4 ⟨hlg4, vs4, rfl, hq4⟩; obtain ⟨n4, d4, b4, rfl, _⟩ := id hq4; obtain ⟨ti, hti, htz⟩ := sz90; refine vco_bstore (.inl ⟨rfl, rfl⟩) rfl rfl rfl hti htz rfl rfl rfl ?_; refine vco_k [4] ?_; obtain ⟨ri0, rhi0, rhz0⟩ := sz90; refine vc_ret ⟨.inr rfl, _, .agg rfl Tryz.underlying90 rhi0 rhz0 (.nil), ?_⟩
  exact ⟨((hlg1.trans hlg2).trans hlg3).trans hlg4, _, rfl, hq4⟩
 ·
  skip
  cases hfb : fitsB n2 d2 b2
  ·
   skip
   refine vc_sr ?_; refine vr 1 ?_; refine vco_call rfl rfl (sfits_e) ?_; rintro v1 H1 ⟨e1, rfl⟩; rw [e1, hfa]; refine vr 2 ?_; refine vco_call rfl rfl (sfits_e) ?_; rintro v1 H1 ⟨e1, rfl⟩; rw [e1, hfb]; refine vr 1 ?_; refine vco_k [2, 3, 4, 10] ?_; refine vc_cond_f rfl ?_; refine vc_skip ?_; refine vc_keep [2, 3, 4] rfl ?_; refine vc_sd .drawB [0, 2, 1, 3, 4, 5, 6] follows (by kernel_rfl) ?_; refine vr 2 ?_; refine vco_callM rfl rfl (srat_ok hu) (fun _ _ h => by first | exact h.le | exact h.1) ?_; rintro w1 G1 ⟨hlg1, hq1⟩; obtain ⟨u1, x1, rfl, hu1, hx1⟩ := id hq1; obtain ⟨Ahu1, chu1, rfl, hchu1, hrhu1⟩ := id hu1; obtain ⟨Ahx1, chx1, rfl, hchx1, hrhx1⟩ := id hx1; refine vco_callM rfl rfl (srat_ok (hv.le hlg1)) (fun _ _ h => by first | exact h.le | exact h.1) ?_; rintro w2 G2 ⟨hlg2, hq2⟩; obtain ⟨u2, x2, rfl, hu2, hx2⟩ := id hq2; obtain ⟨Ahu2, chu2, rfl, hchu2, hrhu2⟩ := id hu2; obtain ⟨Ahx2, chx2, rfl, hchx2, hrhx2⟩ := id hx2; refine vco_callM rfl rfl (Mul_ok (N := N) ((hq1.le hlg2).raw.mono h1) (hq2.raw.mono h2) hN) (fun _ _ h => by first | exact h.le | exact h.1) ?_; rintro w3 G3 ⟨hlg3, hq3⟩; obtain ⟨u3, x3, rfl, hu3, hx3⟩ := id hq3; obtain ⟨Ahu3, chu3, rfl, hchu3, hrhu3⟩ := id hu3; obtain ⟨Ahx3, chx3, rfl, hchx3, hrhx3⟩ := id hx3; refine vco_callM rfl rfl (scanonical_ok hq3) (fun _ _ h => by first | exact h.le | exact h.1) ?_; rintro w4 G4 ⟨hlg4, vs4, rfl, hq4⟩; obtain ⟨n4, d4, b4, rfl, _⟩ := id hq4; obtain ⟨ti, hti, htz⟩ := sz90; refine vco_bstore (.inl ⟨rfl, rfl⟩) rfl rfl rfl hti htz rfl rfl rfl ?_
   refine vco_k [4] ?_; obtain ⟨ri0, rhi0, rhz0⟩ := sz90; refine vc_ret ⟨.inr rfl, _, .agg rfl Tryz.underlying90 rhi0 rhz0 (.nil), ?_⟩; exact ⟨((hlg1.trans hlg2).trans hlg3).trans hlg4, _, rfl, hq4⟩
  ·
   obtain ⟨rfl, k1, k2, k3⟩ := fitsB_iff.1 hfa; obtain ⟨rfl, k4, k5, k6⟩ := fitsB_iff.1 hfb; obtain ⟨-, rfl, rfl, -⟩ := hb1.resolve_right (by rintro ⟨ad, f, u, w, h, _⟩; cases h); obtain ⟨-, rfl, rfl, -⟩ := hb2.resolve_right (by rintro ⟨ad, f, u, w, h, _⟩; cases h); have hp1 := den_pos p; have hp2 := den_pos q; have m1 := mul31 (a := p.num) (b := q.num) k1 k2 k4 k5; have m3 := mul31 (a := p.den) (b := q.den) (by omega) k3 (by omega) k6; have m4 : 0 < (p.den : Int) * (q.den : Int) := Int.mul_pos (by omega) (by omega); refine vc_sr ?_; refine vr 1 ?_; refine vco_call rfl rfl (sfits_e) ?_; rintro v1 H1 ⟨e1, rfl⟩; rw [e1, hfa]; refine vr 2 ?_; refine vco_call rfl rfl (sfits_e) ?_; rintro v1 H1 ⟨e1, rfl⟩; rw [e1, hfb]; refine vr 1 ?_; refine vco_k [2, 3, 4, 10] ?_; refine vc_cond_t rfl ?_; refine vc_sr ?_; refine vr 4 ?_; refine vco_mul rfl rfl ⟨by omega, by omega⟩ ?_; refine vr 4 ?_; refine vco_mul rfl rfl ⟨by omega, by omega⟩ ?_; refine vco_call rfl rfl (sratio_ok (by omega) (by omega) m4 (by omega)) ?_; rintro w1 G1 ⟨hlg1, vs1, rfl, hq1⟩; rw [mul_nd] at hq1; obtain ⟨n1, d1, b1, rfl, _⟩ := id hq1; obtain ⟨ti, hti, htz⟩ := sz90; refine vco_bstore (.inl ⟨rfl, rfl⟩) rfl rfl rfl hti htz rfl rfl rfl ?_; refine vco_k [4] ?_; obtain ⟨ri0, rhi0, rhz0⟩ := sz90; refine vc_ret ⟨.inr rfl, _, .agg rfl Tryz.underlying90 rhi0 rhz0 (.nil), ?_⟩; exact ⟨hlg1, _, rfl, hq1⟩
theorem ssub_ok {H : Heap} {us vs : List Value} {p q : Rat} {N : Nat} (hu : NumV H us p) (hv : NumV H vs q) (h1 : szQ p ≤ N) (h2 : szQ q ≤ N) (hN : (N : Int) ≤ 1099511627776) :
  Fn Tryz.prog 119 #[.agg us.toArray, .agg vs.toArray] H (RetM H (p - q)) := by
 obtain ⟨n1, d1, b1, rfl, hb1⟩ := id hu
 obtain ⟨n2, d2, b2, rfl, hb2⟩ := id hv
 have hsn := szQ_neg q; refine fn_intro (args := [_, _]) Tryz.func119 rfl rfl Tryz.ntmps119 rfl rfl fun w0 => ?_; refine vc_keep [0, 1] rfl ?_; refine vc_sr ?_; refine vco_box rfl rfl ?_; refine vco_box rfl rfl ?_; refine vco_alloc el90 rfl ?_; refine vco_k [2, 3, 4] ?_; refine vc_sd .drawB [0, 1, 2, 3, 4] follows (by kernel_rfl) ?_; refine vr 2 ?_; refine vco_callM rfl rfl (sneg_ok hv (by omega)) (fun _ _ h => by first | exact h.le | exact h.1) ?_; rintro w1 G1 ⟨hlg1, vs1, rfl, hq1⟩; obtain ⟨n1, d1, b1, rfl, _⟩ := id hq1; refine vco_callM rfl rfl (sadd_ok (hu.le hlg1) hq1 h1 (by omega) hN) (fun _ _ h => by first | exact h.le | exact h.1) ?_; rintro w2 G2 ⟨hlg2, vs2, rfl, hq2⟩; rw [← Rat.sub_eq_add_neg] at hq2; obtain ⟨n2, d2, b2, rfl, _⟩ := id hq2; obtain ⟨ti, hti, htz⟩ := sz90; refine vco_bstore (.inl ⟨rfl, rfl⟩) rfl rfl rfl hti htz rfl rfl rfl ?_; refine vco_k [4] ?_; obtain ⟨ri0, rhi0, rhz0⟩ := sz90; refine vc_ret ⟨.inr rfl, _, .agg rfl Tryz.underlying90 rhi0 rhz0 (.nil), ?_⟩; exact ⟨hlg1.trans hlg2, _, rfl, hq2⟩
theorem sdiv_ok {H : Heap} {us vs : List Value} {p q : Rat} {N : Nat} (hu : NumV H us p) (hv : NumV H vs q) (h1 : szQ p ≤ N) (h2 : szQ q ≤ N) (hN : (N : Int) ≤ 1099511627776) (hq : q ≠ 0) :
  Fn Tryz.prog 126 #[.agg us.toArray, .agg vs.toArray] H (RetM H (p / q)) := by
 obtain ⟨n1, d1, b1, rfl, hb1⟩ := id hu
 obtain ⟨n2, d2, b2, rfl, hb2⟩ := id hv; refine fn_intro (args := [_, _]) Tryz.func126 rfl rfl Tryz.ntmps126 rfl rfl fun w0 => ?_; refine vc_keep [0, 1] rfl ?_; refine vc_sr ?_; refine vco_box rfl rfl ?_; refine vco_box rfl rfl ?_; refine vco_alloc el90 rfl ?_; refine vco_k [2, 3, 4] ?_; refine vc_seq ?_
 cases hfa : fitsB n1 d1 b1
 ·
  skip
  refine vc_sr ?_; refine vr 1 ?_; refine vco_call rfl rfl (sfits_e) ?_; rintro v1 H1 ⟨e1, rfl⟩; rw [e1, hfa]; refine vr 4 ?_; refine vco_k [2, 3, 4, 12] ?_; refine vc_cond_f rfl ?_; refine vc_skip ?_; refine vc_keep [2, 3, 4] rfl ?_; refine vc_sd .drawB [0, 2, 1, 3, 4, 5, 6, 7, 8, 9, 10] follows (by kernel_rfl) ?_; refine vr 2 ?_; refine vco_callM rfl rfl (srat_ok hu) (fun _ _ h => by first | exact h.le | exact h.1) ?_; rintro w1 G1 ⟨hlg1, hq1⟩; obtain ⟨u1, x1, rfl, hu1, hx1⟩ := id hq1; obtain ⟨Ahu1, chu1, rfl, hchu1, hrhu1⟩ := id hu1; obtain ⟨Ahx1, chx1, rfl, hchx1, hrhx1⟩ := id hx1; refine vco_callM rfl rfl (srat_ok (hv.le hlg1)) (fun _ _ h => by first | exact h.le | exact h.1) ?_; rintro w2 G2 ⟨hlg2, hq2⟩; obtain ⟨u2, x2, rfl, hu2, hx2⟩ := id hq2; obtain ⟨Ahu2, chu2, rfl, hchu2, hrhu2⟩ := id hu2; obtain ⟨Ahx2, chx2, rfl, hchx2, hrhx2⟩ := id hx2; refine vco_callM rfl rfl (Div_ok (N := N) ((hq1.le hlg2).raw.mono h1) (hq2.raw.mono h2) hN) (fun _ _ h => by first | exact h.le | exact h.1) ?_; rintro w3 G3 ⟨hlg3, r3, rfl, hq3⟩; obtain ⟨u3, x3, rfl, hu3, hx3⟩ := id hq3; obtain ⟨Ahu3, chu3, rfl, hchu3, hrhu3⟩ := id hu3; obtain ⟨Ahx3, chx3, rfl, hchx3, hrhx3⟩ := id hx3; refine vr 3 ?_; refine vco_alloc el31 rfl ?_; obtain ⟨ti, hti, htz⟩ := sz31; refine vco_bstore (.inl ⟨rfl, rfl⟩) rfl rfl rfl hti htz rfl rfl rfl ?_; refine vr 1 ?_; refine vco_k [4, 5] ?_; refine vc_sr ?_; refine vr 1 ?_; refine vco_call rfl rfl (scanonical_ok hq3) ?_
  rintro w4 G4 ⟨hlg4, vs4, rfl, hq4⟩; obtain ⟨n4, d4, b4, rfl, _⟩ := id hq4; obtain ⟨ti, hti, htz⟩ := sz90; refine vco_bstore (.inl ⟨rfl, rfl⟩) rfl rfl rfl hti htz rfl rfl rfl ?_; refine vco_k [4] ?_; obtain ⟨ri0, rhi0, rhz0⟩ := sz90; refine vc_ret ⟨.inr rfl, _, .agg rfl Tryz.underlying90 rhi0 rhz0 (.nil), ?_⟩; exact ⟨((hlg1.trans hlg2).trans hlg3).trans hlg4, _, rfl, hq4⟩
 ·
  skip
  cases hfb : fitsB n2 d2 b2
  ·
   skip
   refine vc_sr ?_; refine vr 1 ?_; refine vco_call rfl rfl (sfits_e) ?_; rintro v1 H1 ⟨e1, rfl⟩; rw [e1, hfa]; refine vr 2 ?_; refine vco_call rfl rfl (sfits_e) ?_; rintro v1 H1 ⟨e1, rfl⟩; rw [e1, hfb]; refine vr 1 ?_; refine vco_k [2, 3, 4, 12] ?_; refine vc_cond_f rfl ?_; refine vc_skip ?_; refine vc_keep [2, 3, 4] rfl ?_; refine vc_sd .drawB [0, 2, 1, 3, 4, 5, 6, 7, 8, 9, 10] follows (by kernel_rfl) ?_; refine vr 2 ?_; refine vco_callM rfl rfl (srat_ok hu) (fun _ _ h => by first | exact h.le | exact h.1) ?_; rintro w1 G1 ⟨hlg1, hq1⟩; obtain ⟨u1, x1, rfl, hu1, hx1⟩ := id hq1; obtain ⟨Ahu1, chu1, rfl, hchu1, hrhu1⟩ := id hu1; obtain ⟨Ahx1, chx1, rfl, hchx1, hrhx1⟩ := id hx1; refine vco_callM rfl rfl (srat_ok (hv.le hlg1)) (fun _ _ h => by first | exact h.le | exact h.1) ?_; rintro w2 G2 ⟨hlg2, hq2⟩; obtain ⟨u2, x2, rfl, hu2, hx2⟩ := id hq2; obtain ⟨Ahu2, chu2, rfl, hchu2, hrhu2⟩ := id hu2; obtain ⟨Ahx2, chx2, rfl, hchx2, hrhx2⟩ := id hx2; refine vco_callM rfl rfl (Div_ok (N := N) ((hq1.le hlg2).raw.mono h1) (hq2.raw.mono h2) hN) (fun _ _ h => by first | exact h.le | exact h.1) ?_; rintro w3 G3 ⟨hlg3, r3, rfl, hq3⟩; obtain ⟨u3, x3, rfl, hu3, hx3⟩ := id hq3; obtain ⟨Ahu3, chu3, rfl, hchu3, hrhu3⟩ := id hu3; obtain ⟨Ahx3, chx3, rfl, hchx3, hrhx3⟩ := id hx3; refine vr 3 ?_; refine vco_alloc el31 rfl ?_; obtain ⟨ti, hti, htz⟩ := sz31; refine vco_bstore (.inl ⟨rfl, rfl⟩) rfl rfl rfl hti htz rfl rfl rfl ?_; refine vr 1 ?_
   refine vco_k [4, 5] ?_; refine vc_sr ?_; refine vr 1 ?_; refine vco_call rfl rfl (scanonical_ok hq3) ?_; rintro w4 G4 ⟨hlg4, vs4, rfl, hq4⟩; obtain ⟨n4, d4, b4, rfl, _⟩ := id hq4; obtain ⟨ti, hti, htz⟩ := sz90; refine vco_bstore (.inl ⟨rfl, rfl⟩) rfl rfl rfl hti htz rfl rfl rfl ?_; refine vco_k [4] ?_; obtain ⟨ri0, rhi0, rhz0⟩ := sz90; refine vc_ret ⟨.inr rfl, _, .agg rfl Tryz.underlying90 rhi0 rhz0 (.nil), ?_⟩; exact ⟨((hlg1.trans hlg2).trans hlg3).trans hlg4, _, rfl, hq4⟩
  ·
   obtain ⟨rfl, k1, k2, k3⟩ := fitsB_iff.1 hfa; obtain ⟨rfl, k4, k5, k6⟩ := fitsB_iff.1 hfb; obtain ⟨-, rfl, rfl, -⟩ := hb1.resolve_right (by rintro ⟨ad, f, u, w, h, _⟩; cases h); obtain ⟨-, rfl, rfl, -⟩ := hb2.resolve_right (by rintro ⟨ad, f, u, w, h, _⟩; cases h); have hp1 := den_pos p; have hp2 := den_pos q; have hqn : q.num ≠ 0 := fun e => hq (Rat.num_eq_zero.1 e); have m1 := mul31 (a := p.num) (b := q.den) k1 k2 (by omega) k6; have m3 := mul31 (a := p.den) (b := q.num) (by omega) k3 k4 k5; refine vc_sr ?_; refine vr 1 ?_; refine vco_call rfl rfl (sfits_e) ?_; rintro v1 H1 ⟨e1, rfl⟩; rw [e1, hfa]; refine vr 2 ?_; refine vco_call rfl rfl (sfits_e) ?_; rintro v1 H1 ⟨e1, rfl⟩; rw [e1, hfb]; refine vr 1 ?_; refine vco_k [2, 3, 4, 12] ?_; refine vc_cond_t rfl ?_; refine vc_seq ?_; refine vc_sr ?_; refine vr 3 ?_; refine vco_k [2, 3, 4, 15] ?_; refine vc_cond rfl (fun hb => ?_) (fun hb => ?_)
   ·
    have hb : q.num < 0 := by simpa using hb
    have m4 : 0 < -(p.den : Int) * q.num := by rw [Int.neg_mul, ← Int.mul_neg]; exact Int.mul_pos (by omega) (by omega)
    have e1 : -p.num * (q.den : Int) = -(p.num * (q.den : Int)) := Int.neg_mul _ _; have e2 : -(p.den : Int) * q.num = -((p.den : Int) * q.num) := Int.neg_mul _ _; refine vc_sr ?_; refine vr 2 ?_; refine vco_neg rfl ⟨by omega, by omega⟩ ?_; refine vr 2 ?_; refine vco_mul rfl rfl ⟨by omega, by omega⟩ ?_; refine vr 2 ?_; refine vco_neg rfl ⟨by omega, by omega⟩ ?_; refine vr 2 ?_; refine vco_mul rfl rfl ⟨by omega, by omega⟩ ?_; refine vco_call rfl rfl (sratio_ok (by omega) (by omega) m4 (by omega)) ?_; rintro w1 G1 ⟨hlg1, vs1, rfl, hq1⟩; rw [div_nd' p hq] at hq1; obtain ⟨n1, d1, b1, rfl, _⟩ := id hq1; obtain ⟨ti, hti, htz⟩ := sz90; refine vco_bstore (.inl ⟨rfl, rfl⟩) rfl rfl rfl hti htz rfl rfl rfl ?_; refine vco_k [4] ?_; obtain ⟨ri0, rhi0, rhz0⟩ := sz90; refine vc_ret ⟨.inr rfl, _, .agg rfl Tryz.underlying90 rhi0 rhz0 (.nil), ?_⟩; exact ⟨hlg1, _, rfl, hq1⟩
   ·
    have hb : 0 < q.num := by have := of_decide_eq_false hb; omega
    have m4 : 0 < (p.den : Int) * q.num := Int.mul_pos (by omega) hb; refine vc_skip ?_; refine vc_keep [2, 3, 4] rfl ?_; refine vc_sr ?_; refine vr 4 ?_; refine vco_mul rfl rfl ⟨by omega, by omega⟩ ?_; refine vr 4 ?_; refine vco_mul rfl rfl ⟨by omega, by omega⟩ ?_; refine vco_call rfl rfl (sratio_ok (by omega) (by omega) m4 (by omega)) ?_; rintro w1 G1 ⟨hlg1, vs1, rfl, hq1⟩; rw [div_nd p hq] at hq1; obtain ⟨n1, d1, b1, rfl, _⟩ := id hq1; obtain ⟨ti, hti, htz⟩ := sz90; refine vco_bstore (.inl ⟨rfl, rfl⟩) rfl rfl rfl hti htz rfl rfl rfl ?_; refine vco_k [4] ?_; obtain ⟨ri0, rhi0, rhz0⟩ := sz90; refine vc_ret ⟨.inr rfl, _, .agg rfl Tryz.underlying90 rhi0 rhz0 (.nil), ?_⟩; exact ⟨hlg1, _, rfl, hq1⟩
end Go.Eng
/- Walks over package simplex, number.go, part 3: lists. -/
namespace Go.Eng
open Go.Proofs Num Lp
/-- Elements that may not be laid yet. -/
def Opt {α : Type} (P : Heap → List Value → α → Prop) (H : Heap) (vs : List Value) : Option α → Prop
  | some a => P H vs a
  | none => True
theorem Opt.up {α : Type} {P : Heap → List Value → α → Prop} (up : Up P) : Up (Opt P) := fun H H' vs a hl h => by
  cases a with
  | none => trivial
  | some a => exact up H H' vs a hl h
/-- The first k elements are laid. -/
def fill {α : Type} (l : List α) (k : Nat) : List (Option α) := (l.take k).map some ++ List.replicate (l.length - k) none
section
variable {α : Type} {l : List α} {k : Nat}
theorem fill_len (h : k ≤ l.length) : (fill l k).length = l.length := by simp [fill]; omega
theorem fill_zero : fill l 0 = List.replicate l.length none := by simp [fill]
theorem fill_set {a : α} (h : l[k]? = some a) : (fill l k).set k (some a) = fill l (k + 1) := by
  have hk := (List.getElem?_eq_some_iff.1 h).1
  apply List.ext_getElem?
  intro i
  by_cases e : i = k
  · subst e
    rw [List.getElem?_set_self (by rw [fill_len (by omega)]; omega)]
    unfold fill
    rw [List.getElem?_append_left (by simp; omega), List.getElem?_map, List.getElem?_take, if_pos (by omega), h]; rfl
  · rw [List.getElem?_set_ne (fun e' => e e'.symm)]
    unfold fill
    by_cases h1 : i < k
    · rw [List.getElem?_append_left (by simp; omega), List.getElem?_append_left (by simp; omega), List.getElem?_map, List.getElem?_map, List.getElem?_take, List.getElem?_take, if_pos h1, if_pos (by omega)]
    · rw [List.getElem?_append_right (by simp; omega), List.getElem?_append_right (by simp; omega), List.getElem?_replicate, List.getElem?_replicate]
      simp only [List.length_map, List.length_take]
      by_cases h2 : i < l.length
      · rw [if_pos (by omega), if_pos (by omega)]
      · rw [if_neg (by omega), if_neg (by omega)]
theorem fill_all : fill l l.length = l.map some := by simp [fill]
theorem fill_els {P : Heap → List Value → α → Prop} {H : Heap} {sz : Nat} {xs : List Value} (h : Els (Opt P H) sz xs (fill l l.length)) : Els (P H) sz xs l := by
  rw [fill_all] at h
  refine ⟨by simpa using h.len, fun i a ha => ?_⟩
  exact h.at_ i (some a) (by rw [List.getElem?_map, ha]; rfl)
end
theorem opt_made {α : Type} {P : Heap → List Value → α → Prop} {H : Heap} {zs : List Value} {sz : Nat} (hz : zs.length = sz) (l : List α) : Els (Opt P H) sz (madeL zs (l.length * sz)) (fill l 0) := by
  rw [fill_zero]
  exact els_made (P := Opt P H) (a := none) hz trivial _
theorem numUp : Up NumV := NumV.up
def RatP (N : Nat) (H : Heap) (vs : List Value) (q : Rat) : Prop := RawV H (.agg vs.toArray) q N
theorem ratUp (N : Nat) : Up (RatP N) := fun _ _ _ _ hl h => RawV.le h hl
def CanP (H : Heap) (vs : List Value) (q : Rat) : Prop := CanV H (.agg vs.toArray) q
theorem canUp : Up CanP := fun _ _ _ _ hl h => CanV.le h hl
theorem arr3 {vs : List Value} {a b c : Value} (h : Value.agg vs.toArray = .agg #[a, b, c]) : vs = [a, b, c] := by
  simp only [Value.agg.injEq] at h
  have := congrArg Array.toList h
  simpa using this
theorem RatP.cells {N : Nat} {H : Heap} {vs : List Value} {q : Rat} (h : RatP N H vs q) : ∃ f A m c A' m' c', vs = [.bool f, .slice A m c, .slice A' m' c'] := by
  obtain ⟨f, u, w, l1, l2, h1, ⟨A, c, rfl, _, _⟩, ⟨A', c', rfl, _, _⟩, _⟩ := h
  exact ⟨f, A, _, c, A', _, c', arr3 h1⟩
theorem CanP.rat {H : Heap} {vs : List Value} {q : Rat} {N : Nat} (h : CanP H vs q) (hs : szQ q ≤ N) : RatP N H vs q := RawV.mono (CanV.raw h) hs
theorem NumV.cells {H : Heap} {vs : List Value} {q : Rat} (h : NumV H vs q) : ∃ n d b, vs = [.int .i64 n, .int .i64 d, .pointer b] := by
  obtain ⟨n, d, b, h, _⟩ := h; exact ⟨n, d, b, h⟩
theorem set_ent (H : Heap) (g : Nat) (xs vs : List Value) (s e k sz : Nat) : ins (ins H g ⟨xs, s, e, true⟩) g { (⟨xs, s, e, true⟩ : Ent) with xs := splice xs (0 + k * sz) vs } = ins H g ⟨splice xs (k * sz) vs, s, e, true⟩ := by
  rw [ins_ins, Nat.zero_add]
theorem rd_at {H : Heap} {g : Nat} {xs : List Value} {s e : Nat} {b : Bool} (h : H g = some ⟨xs, s, e, b⟩) : Rd H (some ⟨g, 0, none⟩) xs := fun i v hv => ⟨_, rfl, by simp [cell, addr0, h, hv]⟩
theorem sgn_zero {q : Rat} (h : sgnQ q = 0) : q = 0 := by
  unfold sgnQ at h
  split at h
  · omega
  · split at h
    · assumption
    · omega
theorem sz_zero : szQ 0 = 1 := by
  unfold szQ
  show max (limbs 0).length (limbs 1).length = 1
  rw [limbs_zero, limbs_one]; rfl
/-- Memory of the call's own that is new: a slice of numbers. -/
def RetZ (H : Heap) (l : List Rat) (v : Value) (H' : Heap) : Prop := ∃ g xs, H g = none ∧ v = .slice (some ⟨g, 0, none⟩) l.length l.length ∧ H' = ins H g ⟨xs, l.length * 3, 90, true⟩ ∧ ∀ K : Heap, Els (NumV K) 3 xs l
/-- A slice that reads as a list, in memory that has grown. -/
def RetS {α : Type} (P : Heap → List Value → α → Prop) (sz : Nat) (H : Heap) (l : List α) (v : Value) (H' : Heap) : Prop := Heap.le H H' ∧ SlV P sz H' v l
theorem szeros_ok {H : Heap} {n : Nat} (hn : (n : Int) ≤ 8796093022208) :
  Fn Tryz.prog 56 #[.int .i64 (n : Int)] H (RetZ H (List.replicate n 0)) := by
 refine fn_intro (args := [_]) Tryz.func56 rfl rfl Tryz.ntmps56 rfl rfl fun w0 => ?_; refine vc_keep [0] rfl ?_; refine vc_sr ?_; refine vr 1 ?_; refine vco_k [0] ?_; refine vc_sr ?_; refine vr 1 ?_; refine vco_make Tryz.underlying85 el90 rfl rfl rfl (by omega) (by omega) (by omega) (by omega) ?_; intro g hg; rw [show ((n : Int)).toNat = n from by omega]
 have hz : ∀ K : Heap, Els (Opt NumV K) 3 (madeL [.int .i64 0, .int .i64 0, .pointer none] (n * 3)) (fill (List.replicate n (0 : Rat)) 0) := fun K => by have := opt_made (P := NumV) (H := K) (zs := [.int .i64 0, .int .i64 0, .pointer none]) rfl (List.replicate n (0 : Rat)); rwa [List.length_replicate] at this
 refine vr 1 ?_; refine vco_k [3] ?_; refine vc_seq ?_; refine vc_sr ?_; refine vr 3 ?_; refine vco_k [3, 8, 9] ?_; refine vc_block ?_; refine vc_loop2 (fun (k : Nat) (xs : List Value) => n - k) (fun (k : Nat) (xs : List Value) => put (put (put (emp) 3 (.val (.slice (some ⟨g, 0, none⟩) n n))) 8 (.val (.int .i64 (n : Int)))) 9 (.val (.int .i64 (k : Int)))) (fun (k : Nat) (xs : List Value) H' => H' = ins H g ⟨xs, n * 3, 90, true⟩ ∧ k ≤ n ∧ ∀ K : Heap, Els (Opt NumV K) 3 xs (fill (List.replicate n (0 : Rat)) k)) 0 _ (⟨rfl, Nat.zero_le _, hz⟩) sub_auto ?_; rintro k xs H1 ⟨rfl, hk, he⟩; have hfl := fill_len (l := List.replicate n (0 : Rat)) (k := k) (by simpa using hk); have hxl := (he H).len; rw [hfl, List.length_replicate] at hxl; refine vc_sr ?_; refine vr 1 ?_; refine vco_k [3, 8, 9, 10] ?_; refine vc_seq ?_; refine vc_cond rfl (fun hb => ?_) (fun hb => ?_)
 ·
  have hb : k < n := by simpa using hb
  refine vc_skip ?_; refine vc_keep [3, 8, 9] rfl ?_; refine vc_seq ?_; refine vc_block ?_; refine vc_sr ?_; refine vr 2 ?_; refine vco_k [3, 4, 8, 9] ?_; refine vc_region rfl ?_; refine vr 2 ?_; refine vco_call rfl rfl (swhole_ok) ?_; rintro v1 H1 ⟨e1, rfl⟩; rw [e1]; obtain ⟨ti, hti, htz⟩ := sz90; refine vco_set (.inl rfl) tbOk rfl rfl rfl (by omega) (by omega) (ins_same _ _ _) rfl (by show 0 + n * 3 ≤ xs.length; omega) hti htz (fun _ => rfl) rfl rfl rfl fun _ => ?_; refine vco_end ?_; refine vc_keep [3, 8, 9] rfl ?_; refine vc_region rfl ?_; refine vco_add rfl rfl ⟨by omega, by omega⟩ ?_; refine vr 1 ?_; refine vco_end ?_; exact ⟨k + 1, _, by omega, sub_auto, set_ent H g xs _ _ _ k 3, by omega, fun K => by rw [← fill_set (a := (0 : Rat)) (by rw [List.getElem?_replicate, if_pos hb])]; exact (he K).set (by rw [hfl, List.length_replicate]; exact hb) (numV_int K (n := 0) (by decide) (by decide)) rfl⟩
 ·
  have hb : n ≤ k := by simpa using hb
  obtain rfl : k = n := by omega
  refine vc_exit ?_; refine vc_keep [3] rfl ?_; refine vc_sr ?_; refine vr 2 ?_; refine vco_k [2] ?_; refine vc_ret ⟨.inr rfl, _, .tmp rfl (.nil), ?_⟩; refine ⟨g, xs, hg, by rw [List.length_replicate]; rfl, by rw [List.length_replicate], fun K => fill_els (l := List.replicate k (0 : Rat)) (by rw [List.length_replicate]; exact he K)⟩
theorem svector_ok {H : Heap} {v : Value} {l : List Rat} {N : Nat} (hv : SlV (RatP N) 3 H v l) (hN : (N : Int) ≤ 1099511627776) (hl : (l.length : Int) ≤ 1099511627776) :
  Fn Tryz.prog 57 #[v] H (RetS NumV 3 H l) := by
 obtain ⟨A, c, ys, rfl, hc, hr, hel⟩ := hv; refine fn_intro (args := [_]) Tryz.func57 rfl rfl Tryz.ntmps57 rfl rfl fun w0 => ?_; refine vc_keep [0] rfl ?_; refine vc_sr ?_; refine vr 1 ?_; refine vco_k [0] ?_; refine vc_sr ?_; refine vr 2 ?_; refine vco_make Tryz.underlying85 el90 rfl rfl rfl (by omega) (by omega) (by omega) (by omega) ?_; intro g hg; rw [show ((l.length : Int)).toNat = l.length from by omega]; have hz : Els (Opt NumV (rem (ins H g ⟨madeL [.int .i64 0, .int .i64 0, .pointer none] (l.length * 3), l.length * 3, 90, true⟩) [g])) 3 (madeL [.int .i64 0, .int .i64 0, .pointer none] (l.length * 3)) (fill l 0) := opt_made (sz := 3) (by rfl) l; refine vr 1 ?_; refine vco_k [0, 3] ?_; refine vc_seq ?_; refine vc_sr ?_; refine vr 3 ?_; refine vco_k [3, 9, 10, 11] ?_; refine vc_block ?_; refine vc_loop2 (fun (k : Nat) (xs : List Value) => l.length - k) (fun (k : Nat) (xs : List Value) => put (put (put (put (emp) 3 (.val (.slice (some ⟨g, 0, none⟩) l.length l.length))) 9 (.val (.slice A l.length c))) 10 (.val (.int .i64 (l.length : Int)))) 11 (.val (.int .i64 (k : Int)))) (fun (k : Nat) (xs : List Value) H' => Heap.le H (rem H' [g]) ∧ H' g = some ⟨xs, l.length * 3, 90, true⟩ ∧ k ≤ l.length ∧ Els (Opt NumV (rem H' [g])) 3 xs (fill l k)) 0 _ (⟨by rw [rem_ins_new _ hg, rem_nil]; exact .refl _, ins_same _ _ _, Nat.zero_le _, hz⟩) sub_auto ?_; rintro k xs H1 ⟨hle, hgx, hk, he⟩; have hfl := fill_len (l := l) (k := k) hk; have hxl := he.len
 rw [hfl] at hxl; have hleH := hle.trans (rem_le H1 [g]); refine vc_sr ?_; refine vr 1 ?_; refine vco_k [3, 9, 10, 11, 12] ?_; refine vc_seq ?_; refine vc_cond rfl (fun hb => ?_) (fun hb => ?_)
 ·
  have hb : k < l.length := by simpa using hb
  obtain ⟨q, hqk⟩ : ∃ q, l[k]? = some q := ⟨_, List.getElem?_eq_getElem hb⟩; obtain ⟨vs, hvl, hvP, hvx⟩ := hel.get hqk; obtain ⟨f, A1, m1, c1, A2, m2, c2, rfl⟩ := hvP.cells; have hvP' : RawV (rem H1 [g]) _ q N := RawV.le hvP hle; refine vc_skip ?_; refine vc_keep [3, 9, 10, 11] rfl ?_; refine vc_seq ?_; refine vc_block ?_; refine vc_sr ?_; refine vr 1 ?_; refine vco_at_st (vs := [.bool f, .slice A1 m1 c1, .slice A2 m2 c2]) tbOk rfl rfl rfl rfl (hr.le hleH) rfl (by decide) hvx (by omega) (by omega) fun _ => ?_; refine vco_alloc el31 rfl ?_; refine vr 1 ?_; obtain ⟨ti, hti, htz⟩ := sz31; refine vco_bstore (.inl ⟨rfl, rfl⟩) rfl rfl rfl hti htz rfl rfl rfl ?_; refine vco_k [3, 4, 5, 9, 10, 11] ?_; refine vc_region rfl ?_; refine vr 3 ?_; refine vco_call rfl rfl (Fn.frame (gs := [g]) (fun q hq => by simp only [List.mem_singleton] at hq; subst hq; rw [hgx]; simp) (sload_ok hvP' hN)) ?_; rintro v2 H2 ⟨⟨hlg2, vs2, rfl, hq2⟩, hs2⟩; obtain ⟨n2, d2, b2, rfl, _⟩ := id hq2; have hg2 := (hs2 g (List.mem_singleton.2 rfl)).trans hgx; obtain ⟨ti, hti, htz⟩ := sz90; refine vco_set (.inl rfl) tbOk rfl rfl rfl (by omega) (by omega) (hg2) rfl (by show 0 + l.length * 3 ≤ xs.length; omega) hti htz (fun _ => rfl) rfl rfl rfl fun _ => ?_; refine vco_end ?_; refine vc_keep [3, 9, 10, 11] rfl ?_; refine vc_region rfl ?_; refine vco_add rfl rfl ⟨by omega, by omega⟩ ?_; refine vr 1 ?_; refine vco_end ?_; refine ⟨k + 1, splice xs (k * 3) [.int .i64 n2, .int .i64 d2, .pointer b2], by omega, sub_auto, ?_, ?_, by omega, ?_⟩
  · rw [rem_ins_in _ (List.mem_singleton.2 rfl)]; exact hle.trans hlg2
  · rw [ins_same, Nat.zero_add]; rfl
  ·
   rw [rem_ins_in _ (List.mem_singleton.2 rfl), ← fill_set hqk]; exact (he.mono fun vs a => Opt.up numUp _ _ vs a hlg2).set (by rw [hfl]; exact hb) hq2 rfl
 ·
  have hb : l.length ≤ k := by simpa using hb
  obtain rfl : k = l.length := by omega
  refine vc_exit ?_; refine vc_keep [3] rfl ?_; refine vc_sr ?_; refine vr 2 ?_; refine vco_k [2] ?_; refine vc_ret ⟨.inr rfl, _, .tmp rfl (.nil), ?_⟩; exact ⟨hle.trans (rem_le _ _), some ⟨g, 0, none⟩, l.length, xs, rfl, Nat.le_refl _, rd_at hgx, (fill_els he).mono fun vs a => numUp _ _ vs a (rem_le _ _)⟩
theorem souts_ok {H : Heap} {v : Value} {l : List Rat} (hv : SlV NumV 3 H v l) (hN : ∀ q, q ∈ l → (szQ q : Int) ≤ 1099511627776) (hl : (l.length : Int) ≤ 1099511627776) :
  Fn Tryz.prog 129 #[v] H (RetS CanP 3 H l) := by
 obtain ⟨A, c, ys, rfl, hc, hr, hel⟩ := hv; refine fn_intro (args := [_]) Tryz.func129 rfl rfl Tryz.ntmps129 rfl rfl fun w0 => ?_; refine vc_keep [0] rfl ?_; refine vc_sr ?_; refine vr 1 ?_; refine vco_k [0] ?_; refine vc_sr ?_; refine vr 2 ?_; refine vco_make Tryz.underlying26 el31 rfl rfl rfl (by omega) (by omega) (by omega) (by omega) ?_; intro g hg; rw [show ((l.length : Int)).toNat = l.length from by omega]; have hz : Els (Opt CanP (rem (ins H g ⟨madeL [.bool false, .slice none 0 0, .slice none 0 0] (l.length * 3), l.length * 3, 31, true⟩) [g])) 3 (madeL [.bool false, .slice none 0 0, .slice none 0 0] (l.length * 3)) (fill l 0) := opt_made (sz := 3) (by rfl) l; refine vr 1 ?_; refine vco_k [0, 3] ?_; refine vc_seq ?_; refine vc_sr ?_; refine vr 3 ?_; refine vco_k [3, 9, 10, 11] ?_; refine vc_block ?_; refine vc_loop2 (fun (k : Nat) (xs : List Value) => l.length - k) (fun (k : Nat) (xs : List Value) => put (put (put (put (emp) 3 (.val (.slice (some ⟨g, 0, none⟩) l.length l.length))) 9 (.val (.slice A l.length c))) 10 (.val (.int .i64 (l.length : Int)))) 11 (.val (.int .i64 (k : Int)))) (fun (k : Nat) (xs : List Value) H' => Heap.le H (rem H' [g]) ∧ H' g = some ⟨xs, l.length * 3, 31, true⟩ ∧ k ≤ l.length ∧ Els (Opt CanP (rem H' [g])) 3 xs (fill l k)) 0 _ (⟨by rw [rem_ins_new _ hg, rem_nil]; exact .refl _, ins_same _ _ _, Nat.zero_le _, hz⟩) sub_auto ?_; rintro k xs H1 ⟨hle, hgx, hk, he⟩; have hfl := fill_len (l := l) (k := k) hk
 have hxl := he.len; rw [hfl] at hxl; have hleH := hle.trans (rem_le H1 [g]); refine vc_sr ?_; refine vr 1 ?_; refine vco_k [3, 9, 10, 11, 12] ?_; refine vc_seq ?_; refine vc_cond rfl (fun hb => ?_) (fun hb => ?_)
 ·
  have hb : k < l.length := by simpa using hb
  obtain ⟨q, hqk⟩ : ∃ q, l[k]? = some q := ⟨_, List.getElem?_eq_getElem hb⟩; obtain ⟨vs, hvl, hvP, hvx⟩ := hel.get hqk; obtain ⟨n1, d1, b1, rfl⟩ := hvP.cells; have hvP' := hvP.le hle; refine vc_skip ?_; refine vc_keep [3, 9, 10, 11] rfl ?_; refine vc_seq ?_; refine vc_block ?_; refine vc_sr ?_; refine vr 1 ?_; refine vco_at_st (vs := [.int .i64 n1, .int .i64 d1, .pointer b1]) tbOk rfl rfl rfl rfl (hr.le hleH) rfl (by decide) hvx (by omega) (by omega) fun _ => ?_; refine vco_alloc el90 rfl ?_; refine vr 1 ?_; obtain ⟨ti, hti, htz⟩ := sz90; refine vco_bstore (.inl ⟨rfl, rfl⟩) rfl rfl rfl hti htz rfl rfl rfl ?_; refine vco_k [3, 4, 5, 9, 10, 11] ?_; refine vc_region rfl ?_; refine vr 3 ?_; refine vco_call rfl rfl (Fn.frame (gs := [g]) (fun q hq => by simp only [List.mem_singleton] at hq; subst hq; rw [hgx]; simp) (sout_ok hvP' (hN q (List.mem_of_getElem? hqk)))) ?_; rintro v2 H2 ⟨⟨hlg2, hq2⟩, hs2⟩; obtain ⟨u2, w2, rfl, hu2, hw2⟩ := id hq2; obtain ⟨A2, c2, rfl, hc2, hr2⟩ := id hu2; obtain ⟨A3, c3, rfl, hc3, hr3⟩ := id hw2; have hg2 := (hs2 g (List.mem_singleton.2 rfl)).trans hgx; obtain ⟨ti, hti, htz⟩ := sz31; refine vco_set (.inl rfl) tbOk rfl rfl rfl (by omega) (by omega) (hg2) rfl (by show 0 + l.length * 3 ≤ xs.length; omega) hti htz (fun _ => rfl) rfl rfl rfl fun _ => ?_; refine vco_end ?_; refine vc_keep [3, 9, 10, 11] rfl ?_; refine vc_region rfl ?_; refine vco_add rfl rfl ⟨by omega, by omega⟩ ?_; refine vr 1 ?_; refine vco_end ?_
  refine ⟨k + 1, splice xs (k * 3) [.bool (decide (q.num < 0)), .slice A2 (limbs q.num.natAbs).length c2, .slice A3 (limbs q.den).length c3], by omega, sub_auto, ?_, ?_, by omega, ?_⟩
  · rw [rem_ins_in _ (List.mem_singleton.2 rfl)]; exact hle.trans hlg2
  · rw [ins_same, Nat.zero_add]; rfl
  ·
   rw [rem_ins_in _ (List.mem_singleton.2 rfl), ← fill_set hqk]; exact (he.mono fun vs a => Opt.up canUp _ _ vs a hlg2).set (by rw [hfl]; exact hb) (show CanP _ _ q from hq2) rfl
 ·
  have hb : l.length ≤ k := by simpa using hb
  obtain rfl : k = l.length := by omega
  refine vc_exit ?_; refine vc_keep [3] rfl ?_; refine vc_sr ?_; refine vr 2 ?_; refine vco_k [2] ?_; refine vc_ret ⟨.inr rfl, _, .tmp rfl (.nil), ?_⟩; exact ⟨hle.trans (rem_le _ _), some ⟨g, 0, none⟩, l.length, xs, rfl, Nat.le_refl _, rd_at hgx, (fill_els he).mono fun vs a => canUp _ _ vs a (rem_le _ _)⟩
end Go.Eng
/- How great the numbers of a tableau become. -/
namespace Lp
namespace Tab
/-- Column j is in the basis. -/
def InB (T : Tab) (j : Nat) : Prop := ∃ k, k < T.m ∧ T.B k = j
section
variable {T S : Tab}
theorem change_row (hT : T.WF) (h : Same T S) {i j : Nat} (hi : i < S.m) (hj : j ≤ T.n) : S.A i j = sumN T.m (fun k => S.A i (T.B k) * T.A k j) := by
  have h1 := (h.sol _).2 (sol_dir hT j hj) i hi
  rw [h.n, dot_dir T hT.lt j hj] at h1
  grind
theorem change_cost (hT : T.WF) (h : Same T S) {j : Nat} (hj : j ≤ T.n) : S.c j = T.c j + sumN T.m (fun k => S.c (T.B k) * T.A k j) := by
  have h1 := h.cost _ (sol_dir hT j hj)
  rw [cost_dir hT j hj] at h1
  unfold cost at h1
  rw [h.n, dot_dir T hT.lt j hj] at h1
  grind
theorem exchange (hT : T.WF) (hS : S.WF) (h : Same T S) {i0 : Nat} (hi : i0 < S.m) (hn : ¬ T.InB (S.B i0)) : ∃ r, r < T.m ∧ T.A r (S.B i0) ≠ 0 ∧ ¬ S.InB (T.B r) := by
  false_or_by_contra
  rename_i hc
  have hlt := hS.lt i0 hi
  have h1 := change_row hT h hi (j := S.B i0) (by rw [h.n] at hlt; omega)
  rw [hS.unit i0 i0 hi hi, if_pos rfl, sumN_eq0] at h1
  · grind
  · intro k hk
    by_cases e : T.A k (S.B i0) = 0
    · rw [e]; grind
    · by_cases hb : S.InB (T.B k)
      · obtain ⟨i', hi', e'⟩ := hb
        have hne : i0 ≠ i' := fun e0 => hn ⟨k, hk, by rw [e0]; exact e'.symm⟩
        rw [← e', hS.unit i' i0 hi' hi, if_neg hne]; grind
      · exact absurd ⟨k, hk, e, hb⟩ hc
open Classical in
/-- The number of columns of S's basis that are not in T's. -/
noncomputable def cnt (T S : Tab) : Nat := (List.range S.m).countP fun i => decide (¬ T.InB (S.B i))
theorem inB_pivot {r s j : Nat} (h : T.InB j) (hj : j ≠ T.B r) : (T.pivot r s).InB j := by
  obtain ⟨k, hk, e⟩ := h
  refine ⟨k, hk, ?_⟩
  show (if k = r then s else T.B k) = j
  rw [if_neg (fun e' => hj (by rw [← e, e'])), e]
theorem cnt_lt {r i0 : Nat} (hr : r < T.m) (hi : i0 < S.m) (hn : ¬ T.InB (S.B i0)) (hb : ¬ S.InB (T.B r)) : cnt (T.pivot r (S.B i0)) S < cnt T S := by
  unfold cnt
  refine countP_lt _ _ _ (fun i hil hd => ?_) ⟨i0, List.mem_range.2 hi, ?_, ?_⟩
  · simp only [decide_eq_true_eq] at hd ⊢
    exact fun hin => hd (inB_pivot hin (fun e => hb ⟨i, List.mem_range.1 hil, e⟩))
  · simp only [decide_eq_true_eq]; exact hn
  · simp only [decide_eq_false_iff_not, Classical.not_not]
    exact ⟨r, hr, by show (if r = r then S.B i0 else T.B r) = _; rw [if_pos rfl]⟩
/-- All numbers over one denominator; those of the last column over it times D0, and greater by 2 ^ f. -/
def Com (D X : Nat) (q : Rat) : Prop := ∃ z : Int, q * (D : Rat) = (z : Rat) ∧ z.natAbs ≤ X
def lst (n j k z : Nat) : Nat := if j = n then k else z
structure BdD (D0 f e D : Nat) (T : Tab) : Prop where
  pos : 0 < D
  le : D ≤ 2 ^ e
  A : ∀ i, i < T.m → ∀ j, j ≤ T.n → Com (D * lst T.n j D0 1) (2 ^ (e + lst T.n j f 0)) (T.A i j)
  c : ∀ j, j ≤ T.n → Com (D * lst T.n j D0 1) (2 ^ (e + lst T.n j f 0)) (T.c j)
def Bd (D0 f e : Nat) (T : Tab) : Prop := ∃ D : Nat, BdD D0 f e D T
theorem lst_lt {n j k z : Nat} (h : j < n) : lst n j k z = z := if_neg (by omega)
theorem lst_n {n k z : Nat} : lst n n k z = k := if_pos rfl
theorem Com.mono {D X Y : Nat} {q : Rat} (h : Com D X q) (hl : X ≤ Y) : Com D Y q := by
  obtain ⟨z, h1, h2⟩ := h
  exact ⟨z, h1, Nat.le_trans h2 hl⟩
theorem Bd.mono {D0 f e e' : Nat} (h : Bd D0 f e T) (hl : e ≤ e') : Bd D0 f e' T := by
  obtain ⟨D, h1, h2, h3, h4⟩ := h
  have hp : ∀ k, 2 ^ (e + k) ≤ 2 ^ (e' + k) := fun k => Nat.pow_le_pow_right (by decide) (by omega)
  exact ⟨D, h1, Nat.le_trans h2 (hp 0), fun i hi j hj => (h3 i hi j hj).mono (hp _), fun j hj => (h4 j hj).mono (hp _)⟩
theorem natAbs_sub_le (a b : Int) : (a - b).natAbs ≤ a.natAbs + b.natAbs := by omega
theorem com_elim {D K : Nat} {N z1 z2 z3 : Int} {a b c d : Rat} {X Y : Nat} (hD : (D : Rat) ≠ 0) (hN : (N : Rat) ≠ 0) (h : d * (D : Rat) = (N : Rat)) (h1 : a * ((D * K : Nat) : Rat) = (z1 : Rat)) (h2 : b * (D : Rat) = (z2 : Rat)) (h3 : c * ((D * K : Nat) : Rat) = (z3 : Rat))
    (k1 : z1.natAbs ≤ Y) (k2 : z2.natAbs ≤ X) (k3 : z3.natAbs ≤ Y) (k : N.natAbs ≤ X) : Com (D * N.natAbs * K) (2 * (X * Y)) (a - b * (c / d)) := by
  refine ⟨N.sign * (z1 * N - z2 * z3), ?_, ?_⟩
  · have e1 : ((D * N.natAbs * K : Nat) : Rat) = (D : Rat) * ((N.sign : Rat) * (N : Rat)) * (K : Rat) := by
      have hsg : (N.natAbs : Int) = N.sign * N := by
        rcases Int.lt_trichotomy N 0 with h | h | h
        · rw [Int.sign_eq_neg_one_of_neg h]; omega
        · subst h; rfl
        · rw [Int.sign_eq_one_of_pos h]; omega
      have : ((N.natAbs : Int) : Rat) = ((N.sign * N : Int) : Rat) := by rw [hsg]
      rw [Rat.natCast_mul, Rat.natCast_mul]
      have h0 : ((N.natAbs : Nat) : Rat) = ((N.natAbs : Int) : Rat) := rfl
      rw [h0, this, Rat.intCast_mul]
    have hd : d ≠ 0 := fun e => by rw [e] at h; grind
    rw [Rat.natCast_mul] at h1 h3
    rw [e1, Rat.intCast_mul, Rat.intCast_sub, Rat.intCast_mul, Rat.intCast_mul, ← h1, ← h2, ← h3, ← h]
    grind
  · have hs : N.sign.natAbs ≤ 1 := by
      rw [Int.natAbs_sign]; split <;> omega
    rw [Int.natAbs_mul]
    have h4 := natAbs_sub_le (z1 * N) (z2 * z3)
    rw [Int.natAbs_mul, Int.natAbs_mul] at h4
    have h5 : z1.natAbs * N.natAbs ≤ X * Y := by rw [Nat.mul_comm]; exact Nat.mul_le_mul k k1
    have h6 : z2.natAbs * z3.natAbs ≤ X * Y := Nat.mul_le_mul k2 k3
    have h7 : N.sign.natAbs * (z1 * N - z2 * z3).natAbs ≤ 1 * (z1 * N - z2 * z3).natAbs := Nat.mul_le_mul_right _ hs
    omega
theorem two_pow_dbl (e f : Nat) : 2 * (2 ^ e * 2 ^ (e + f)) = 2 ^ (2 * e + 1 + f) := by
  rw [show 2 * e + 1 + f = (e + (e + f)) + 1 by omega, Nat.pow_succ, Nat.pow_add 2 e (e + f), Nat.mul_comm]
theorem Bd.pivot {D0 f e r s : Nat} (h : Bd D0 f e T) (hr : r < T.m) (hs : s < T.n) (hp : T.A r s ≠ 0) : Bd D0 f (2 * e + 1) (T.pivot r s) := by
  obtain ⟨D, h1, h2, h3, h4⟩ := h
  have one : ∀ {q : Rat}, Com (D * lst T.n s D0 1) (2 ^ (e + lst T.n s f 0)) q → Com D (2 ^ e) q := fun h => by rwa [lst_lt hs, lst_lt hs, Nat.mul_one] at h
  obtain ⟨N, hN, hNX⟩ := one (h3 r hr s (by omega))
  have hD : (D : Rat) ≠ 0 := fun e => by
    have : D = 0 := by exact_mod_cast e
    omega
  have hN0 : (N : Rat) ≠ 0 := by
    rw [← hN]
    intro e0
    rcases Rat.mul_eq_zero.1 e0 with h | h
    · exact hp h
    · exact hD h
  have hNz : N ≠ 0 := fun e => hN0 (by rw [e]; rfl)
  refine ⟨D * N.natAbs, Nat.mul_pos h1 (by omega), ?_, fun i hi j hj => ?_, fun j hj => ?_⟩
  · have := two_pow_dbl e 0
    rw [Nat.add_zero, Nat.add_zero] at this
    rw [← this]
    have := Nat.mul_le_mul h2 hNX
    omega
  · show Com (D * N.natAbs * lst T.n j D0 1) (2 ^ (2 * e + 1 + lst T.n j f 0)) _
    rw [← two_pow_dbl]
    obtain ⟨z3, k3, l3⟩ := h3 r hr j hj
    show Com _ _ (if i = r then T.A r j / T.A r s else T.A i j - T.A i s * (T.A r j / T.A r s))
    by_cases e' : i = r
    · rw [if_pos e']
      have e3 : (-1 : Rat) * (D : Rat) = ((-(D : Int) : Int) : Rat) := by
        rw [Rat.intCast_neg]
        have : ((D : Int) : Rat) = (D : Rat) := rfl
        rw [this]; grind
      have := com_elim (z1 := 0) (a := 0) (z2 := -(D : Int)) (b := -1) hD hN0 hN (by grind) e3 k3 (by omega) (by omega) l3 hNX
      have e2 : (0 : Rat) - -1 * (T.A r j / T.A r s) = T.A r j / T.A r s := by grind
      rwa [e2] at this
    · rw [if_neg e']
      obtain ⟨z1, k1, l1⟩ := h3 i hi j hj
      obtain ⟨z2, k2, l2⟩ := one (h3 i hi s (by omega))
      exact com_elim hD hN0 hN k1 k2 k3 l1 l2 l3 hNX
  · show Com (D * N.natAbs * lst T.n j D0 1) (2 ^ (2 * e + 1 + lst T.n j f 0)) _
    rw [← two_pow_dbl]
    obtain ⟨z3, k3, l3⟩ := h3 r hr j hj
    obtain ⟨z1, k1, l1⟩ := h4 j hj
    obtain ⟨z2, k2, l2⟩ := one (h4 s (by omega))
    exact com_elim hD hN0 hN k1 k2 k3 l1 l2 l3 hNX
theorem reach {D0 f : Nat} (hS : S.WF) : ∀ (k e : Nat) (T : Tab), T.WF → Same T S → Bd D0 f e T → cnt T S ≤ k → ∃ T' : Tab, T'.WF ∧ Same T' S ∧ (∀ i, i < S.m → T'.InB (S.B i)) ∧ Bd D0 f (2 ^ k * (e + 1) - 1) T' := by
  intro k
  induction k with
  | zero =>
    intro e T hT h hb hc
    refine ⟨T, hT, h, fun i hi => ?_, by rw [Nat.pow_zero, Nat.one_mul]; exact hb⟩
    false_or_by_contra
    rename_i hn
    have : 0 < cnt T S := by
      unfold cnt
      exact List.countP_pos_iff.2 ⟨i, List.mem_range.2 hi, by simp only [decide_eq_true_eq]; exact hn⟩
    omega
  | succ k ih =>
    intro e T hT h hb hc
    by_cases ha : ∀ i, i < S.m → T.InB (S.B i)
    · refine ⟨T, hT, h, ha, hb.mono ?_⟩
      have : 1 * (e + 1) ≤ 2 ^ (k + 1) * (e + 1) := Nat.mul_le_mul_right _ Nat.one_le_two_pow
      omega
    · obtain ⟨i0, ha⟩ := Classical.not_forall.1 ha
      obtain ⟨hi, hn⟩ := Classical.not_imp.1 ha
      obtain ⟨r, hr, hp, hbr⟩ := exchange hT hS h hi hn
      have hlt := hS.lt i0 hi
      rw [h.n] at hlt
      obtain ⟨T', h1, h2, h3, h4⟩ := ih (2 * e + 1) (T.pivot r (S.B i0)) (pivot_wf hT hr hlt hp) ((Same.pivot hr hp).symm.trans h) (hb.pivot hr hlt hp) (by have := cnt_lt hr hi hn hbr; omega)
      refine ⟨T', h1, h2, h3, ?_⟩
      have e2 : 2 ^ k * (2 * e + 1 + 1) = 2 ^ (k + 1) * (e + 1) := by
        rw [Nat.pow_succ, Nat.mul_assoc]
        congr 1
      rwa [e2] at h4
/-- All tableaus of one system have numbers of a bounded size. -/
theorem bd_all {D0 f e k : Nat} (hT : T.WF) (hS : S.WF) (h : Same T S) (hb : Bd D0 f e T) (hk : cnt T S ≤ k) : Bd D0 f (2 ^ k * (e + 1) - 1) S := by
  obtain ⟨T', h1, h2, h3, D, hD, hX, hA, hC⟩ := reach hS k e T hT h hb hk
  have hin : ∀ i, i < S.m → ∀ k, k < T'.m → ∀ i', i' < S.m → T'.B k = S.B i → T'.A k (S.B i') = if i' = i then 1 else 0 := by
    intro i hi k hk i' hi' e
    obtain ⟨k', hk', e'⟩ := h3 i' hi'
    rw [← e', h1.unit k' k hk' hk]
    by_cases e0 : i' = i
    · rw [if_pos e0, if_pos (h1.inj hk hk' (by rw [e, e', e0]))]
    · rw [if_neg e0, if_neg (fun e1 => e0 (hS.inj hi' hi (by rw [← e', ← e, e1])))]
  refine ⟨D, hD, hX, fun i hi j hj => ?_, fun j hj => ?_⟩
  · obtain ⟨k, hk, e⟩ := h3 i hi
    have h4 := change_row hS h2.symm (i := k) (j := j) hk hj
    rw [sumN_single (k := i) hi _ (fun i' hi' hne => by rw [hin i hi k hk i' hi' e, if_neg hne]; grind), hin i hi k hk i hi e, if_pos rfl] at h4
    have h5 := hA k hk j (by rw [← h2.n]; exact hj)
    rw [h4, ← h2.n] at h5
    have e6 : 1 * S.A i j = S.A i j := by grind
    rwa [e6] at h5
  · have h4 := change_cost hS h2.symm (j := j) hj
    rw [sumN_eq0] at h4
    · have h5 := hC j (by rw [← h2.n]; exact hj)
      rw [h4, ← h2.n] at h5
      have e6 : S.c j + 0 = S.c j := by grind
      rwa [e6] at h5
    · intro i hi
      obtain ⟨k, hk, e⟩ := h3 i hi
      rw [← e, h1.zero k hk]; grind
theorem cnt_le (T S : Tab) : cnt T S ≤ S.m := by
  unfold cnt
  exact Nat.le_trans List.countP_le_length (by rw [List.length_range]; exact Nat.le_refl _)
theorem nodup_len : ∀ (n : Nat) (l : List Nat), l.Nodup → (∀ x, x ∈ l → x < n) → l.length ≤ n
  | 0, l, _, h => by
    cases l with
    | nil => exact Nat.le_refl _
    | cons x l => exact absurd (h x (List.mem_cons_self ..)) (Nat.not_lt_zero _)
  | n + 1, l, hd, h => by
    have h1 := nodup_len n (l.erase n) (hd.erase n) fun x hx => by
      have h2 := (hd.mem_erase_iff).1 hx
      have := h x h2.2
      have := h2.1
      omega
    have h2 : l.length ≤ (l.erase n).length + 1 := by
      rw [List.length_erase]; split <;> omega
    omega
theorem nodup_map {f : Nat → Nat} : ∀ {l : List Nat}, l.Nodup → (∀ x, x ∈ l → ∀ y, y ∈ l → f x = f y → x = y) → (l.map f).Nodup
  | [], _, _ => List.nodup_nil
  | x :: l, h, hi => by
    rw [List.nodup_cons] at h
    rw [List.map_cons, List.nodup_cons]
    refine ⟨fun hm => ?_, nodup_map h.2 fun y hy z hz => hi y (List.mem_cons_of_mem _ hy) z (List.mem_cons_of_mem _ hz)⟩
    obtain ⟨y, hy, e⟩ := List.mem_map.1 hm
    have := hi y (List.mem_cons_of_mem _ hy) x (List.mem_cons_self ..) e
    exact h.1 (this ▸ hy)
open Classical in
/-- No more columns come into the basis than are outside of it. -/
theorem cnt_le2 (hT : T.WF) (hS : S.WF) (h : Same T S) : cnt T S + T.m ≤ T.n := by
  unfold cnt
  rw [List.countP_eq_length_filter]
  generalize hl : (List.range S.m).filter (fun i => decide (¬ T.InB (S.B i))) = l
  have hlr : ∀ i, i ∈ l → i < S.m ∧ ¬ T.InB (S.B i) := fun i hi => by
    rw [← hl, List.mem_filter] at hi
    exact ⟨List.mem_range.1 hi.1, of_decide_eq_true hi.2⟩
  have hld : l.Nodup := by rw [← hl]; exact List.Pairwise.filter _ List.nodup_range
  have h1 := nodup_len T.n (l.map S.B ++ (List.range T.m).map T.B) ?_ ?_
  · rwa [List.length_append, List.length_map, List.length_map, List.length_range] at h1
  · rw [List.nodup_append]
    refine ⟨nodup_map hld fun x hx y hy e => hS.inj (hlr x hx).1 (hlr y hy).1 e, nodup_map List.nodup_range fun x hx y hy e => hT.inj (List.mem_range.1 hx) (List.mem_range.1 hy) e, fun a ha b hb e => ?_⟩
    obtain ⟨i, hi, rfl⟩ := List.mem_map.1 ha
    obtain ⟨k, hk, rfl⟩ := List.mem_map.1 hb
    exact (hlr i hi).2 ⟨k, List.mem_range.1 hk, e.symm⟩
  · intro x hx
    rcases List.mem_append.1 hx with hx | hx
    · obtain ⟨i, hi, rfl⟩ := List.mem_map.1 hx
      have := hS.lt i (hlr i hi).1
      rw [← h.n]; exact this
    · obtain ⟨i, hi, rfl⟩ := List.mem_map.1 hx
      exact hT.lt i (List.mem_range.1 hi)
/-- What a common denominator tells of a number. -/
theorem com_size {D X : Nat} {q : Rat} (hD : 0 < D) (h : Com D X q) : q.num.natAbs ≤ X ∧ q.den ≤ D := by
  obtain ⟨z, h1, h2⟩ := h
  have hD' : (D : Rat) ≠ 0 := fun e => by
    have : D = 0 := by exact_mod_cast e
    omega
  have e : mkRat z D = q := by
    rw [Rat.mkRat_eq_div]
    grind
  obtain ⟨k, hk, h3, h4⟩ := Rat.mkRat_num_den (n := z) (d := D) (by omega) (n' := q.num) (d' := q.den) (z' := q.den_nz) (c := q.reduced) e
  refine ⟨?_, ?_⟩
  · rw [h3, Int.natAbs_mul, Int.natAbs_natCast] at h2
    exact Nat.le_trans (Nat.le_mul_of_pos_right _ (by omega)) h2
  · rw [h4]
    exact Nat.le_mul_of_pos_right _ (by omega)
/-- The weight of a number. -/
def wt (q : Rat) : Nat := q.num.natAbs.log2 + q.den.log2 + 2
theorem wt_num (q : Rat) : q.num.natAbs ≤ 2 ^ wt q := by
  have h1 := Nat.lt_log2_self (n := q.num.natAbs)
  have h2 := Nat.pow_le_pow_right (n := 2) (by decide) (show q.num.natAbs.log2 + 1 ≤ wt q by unfold wt; omega)
  omega
theorem wt_den (q : Rat) : q.den ≤ 2 ^ wt q := by
  have h1 := Nat.lt_log2_self (n := q.den)
  have h2 := Nat.pow_le_pow_right (n := 2) (by decide) (show q.den.log2 + 1 ≤ wt q by unfold wt; omega)
  omega
def wts : List Rat → Nat
  | [] => 0
  | q :: l => wt q + wts l
def dens : List Rat → Nat
  | [] => 1
  | q :: l => q.den * dens l
theorem dens_pos (l : List Rat) : 0 < dens l := by
  induction l with
  | nil => exact Nat.one_pos
  | cons q l ih => exact Nat.mul_pos (Nat.pos_of_ne_zero q.den_nz) ih
theorem dens_le (l : List Rat) : dens l ≤ 2 ^ wts l := by
  induction l with
  | nil => exact Nat.le_refl _
  | cons q l ih =>
    simp only [dens, wts, Nat.pow_add]
    exact Nat.mul_le_mul (wt_den q) ih
theorem den_dvd {l : List Rat} {q : Rat} (h : q ∈ l) : ∃ k, dens l = q.den * k := by
  induction l with
  | nil => cases h
  | cons r l ih =>
    rcases List.mem_cons.1 h with rfl | h
    · exact ⟨_, rfl⟩
    · obtain ⟨k, hk⟩ := ih h
      exact ⟨r.den * k, by simp only [dens, hk]; rw [Nat.mul_left_comm]⟩
theorem wt_le {l : List Rat} {q : Rat} (h : q ∈ l) : wt q ≤ wts l := by
  induction l with
  | nil => cases h
  | cons r l ih =>
    simp only [wts]
    rcases List.mem_cons.1 h with rfl | h
    · omega
    · have := ih h; omega
theorem com_mem {l : List Rat} {q : Rat} (h : q ∈ l) : Com (dens l) (2 ^ (2 * wts l)) q := by
  obtain ⟨k, hk⟩ := den_dvd h
  refine ⟨q.num * k, ?_, ?_⟩
  · rw [hk, Rat.natCast_mul, Rat.intCast_mul]
    have h1 : q * (q.den : Rat) = (q.num : Rat) := by
      have hd : (q.den : Rat) ≠ 0 := fun e => q.den_nz (by exact_mod_cast e)
      have e := Rat.mkRat_self q
      rw [Rat.mkRat_eq_div] at e
      grind
    have h2 : ((k : Int) : Rat) = (k : Rat) := rfl
    rw [h2, ← h1]; grind
  · rw [Int.natAbs_mul, Int.natAbs_natCast]
    have h1 := wt_num q
    have h2 := Nat.pow_le_pow_right (n := 2) (by decide) (wt_le h)
    have h3 : k ≤ dens l := by
      rw [hk]; exact Nat.le_mul_of_pos_left _ (Nat.pos_of_ne_zero q.den_nz)
    have h4 := dens_le l
    rw [Nat.two_mul, Nat.pow_add]
    exact Nat.mul_le_mul (Nat.le_trans h1 h2) (Nat.le_trans h3 h4)
theorem com_int (l : List Rat) (z : Int) (hz : z.natAbs ≤ 1) : Com (dens l) (2 ^ (2 * wts l)) (z : Rat) := by
  refine ⟨z * dens l, ?_, ?_⟩
  · rw [Rat.intCast_mul]; rfl
  · rw [Int.natAbs_mul, Int.natAbs_natCast]
    have h1 : z.natAbs * dens l ≤ 1 * dens l := Nat.mul_le_mul_right _ hz
    have h2 := dens_le l
    have h3 := Nat.pow_le_pow_right (n := 2) (by decide) (show wts l ≤ 2 * wts l by omega)
    omega
theorem Com.neg {D X : Nat} {q : Rat} (h : Com D X q) : Com D X (-q) := by
  obtain ⟨z, h1, h2⟩ := h
  exact ⟨-z, by rw [Rat.intCast_neg, ← h1]; grind, by omega⟩
theorem Com.sub {D X Y : Nat} {q r : Rat} (h : Com D X q) (k : Com D Y r) : Com D (X + Y) (q - r) := by
  obtain ⟨z, h1, h2⟩ := h
  obtain ⟨y, k1, k2⟩ := k
  exact ⟨z - y, by rw [Rat.intCast_sub, ← h1, ← k1]; grind, by omega⟩
theorem com_zero (D X : Nat) : Com D X 0 := ⟨0, by grind, by simp⟩
theorem com_sum {D X : Nat} (m : Nat) (f : Nat → Rat) (h : ∀ i, i < m → Com D X (f i)) : Com D (m * X) (sumN m f) := by
  induction m with
  | zero => rw [sumN_zero]; exact com_zero _ _
  | succ m ih =>
    rw [sumN_succ, Nat.succ_mul]
    obtain ⟨z, h1, h2⟩ := ih (fun i hi => h i (by omega))
    obtain ⟨y, k1, k2⟩ := h m (by omega)
    exact ⟨z + y, by rw [Rat.intCast_add, ← h1, ← k1]; grind, by omega⟩
end
end Tab
end Lp
/- How a tableau lies in memory. -/
namespace Go.Eng
open Go.Proofs Num Lp
/-- The first values of a function. -/
def vals (f : Nat → Rat) (n : Nat) : List Rat := (List.range n).map f
theorem vals_len (f : Nat → Rat) (n : Nat) : (vals f n).length = n := by simp [vals]
theorem vals_get {f : Nat → Rat} {n j : Nat} (h : j < n) : (vals f n)[j]? = some (f j) := by simp [vals, h]
theorem vals_congr {f g : Nat → Rat} {n : Nat} (h : ∀ j, j < n → f j = g j) : vals f n = vals g n := by
  apply List.ext_getElem?
  intro j
  by_cases hj : j < n
  · rw [vals_get hj, vals_get hj, h j hj]
  · rw [List.getElem?_eq_none (by rw [vals_len]; omega), List.getElem?_eq_none (by rw [vals_len]; omega)]
theorem fn_vals {f : Nat → Rat} {n j : Nat} (h : j < n) : fn (vals f n) j = f j := fn_get (vals_get h)
/-- The first k elements of one list, the others of another. -/
def mixf (f g : Nat → Rat) (k : Nat) (j : Nat) : Rat := if j < k then f j else g j
theorem mix_set {f g : Nat → Rat} {n k : Nat} : (vals (mixf f g k) n).set k (f k) = vals (mixf f g (k + 1)) n := by
  apply List.ext_getElem?
  intro j
  by_cases hj : j < n
  · by_cases e : j = k
    · subst e
      rw [List.getElem?_set_self (by rw [vals_len]; exact hj), vals_get hj]
      simp [mixf]
    · rw [List.getElem?_set_ne (fun e' => e e'.symm), vals_get hj, vals_get hj]
      unfold mixf
      by_cases h : j < k
      · rw [if_pos h, if_pos (by omega)]
      · rw [if_neg h, if_neg (by omega)]
  · rw [List.getElem?_eq_none (by rw [List.length_set, vals_len]; omega), List.getElem?_eq_none (by rw [vals_len]; omega)]
theorem mix_skip {f g : Nat → Rat} {n k : Nat} (h : f k = g k) : vals (mixf f g k) n = vals (mixf f g (k + 1)) n := vals_congr fun j _ => by
  unfold mixf
  by_cases e : j = k
  · subst e; rw [if_neg (by omega), if_pos (by omega), h]
  · by_cases h' : j < k
    · rw [if_pos h', if_pos (by omega)]
    · rw [if_neg h', if_neg (by omega)]
theorem mix_zero {f g : Nat → Rat} {n : Nat} : vals (mixf f g 0) n = vals g n := vals_congr fun j _ => by simp [mixf]
theorem mix_all {f g : Nat → Rat} {n : Nat} : vals (mixf f g n) n = vals f n := vals_congr fun j hj => by simp [mixf, hj]
/-- A block that holds the numbers l, valid in K. -/
def BlkN (K : Heap) (H : Heap) (g : Nat) (l : List Rat) : Prop := ∃ xs sz, H g = some ⟨xs, sz, 90, true⟩ ∧ Els (NumV K) 3 xs l
theorem BlkN.le {K K' H H' : Heap} {g : Nat} {l : List Rat} (h : BlkN K H g l) (hl : Heap.le K K') (hs : H' g = H g) : BlkN K' H' g l := by
  obtain ⟨xs, sz, h1, h2⟩ := h
  exact ⟨xs, sz, by rw [hs]; exact h1, h2.mono fun vs a => numUp _ _ vs a hl⟩
theorem BlkN.rd {K H : Heap} {g : Nat} {l : List Rat} (h : BlkN K H g l) {i : Nat} {q : Rat} (hq : l[i]? = some q) : ∃ xs n d b, Rd H (some ⟨g, 0, none⟩) xs ∧ NumV K [.int .i64 n, .int .i64 d, .pointer b] q ∧ ∀ (j : Nat) (v : Value), [.int .i64 n, .int .i64 d, .pointer b][j]? = some v → xs[i * 3 + j]? = some v := by
  obtain ⟨xs, sz, h1, h2⟩ := h
  obtain ⟨vs, _, h3, h4⟩ := h2.get hq
  obtain ⟨n, d, b, rfl⟩ := h3.cells
  exact ⟨xs, n, d, b, rd_at h1, h3, h4⟩
/-- What stays when blocks set apart are left alone, or one of them is turned. -/
structure Kept (gs : List Nat) (H H' : Heap) : Prop where
  le : Heap.le (rem H gs) (rem H' gs)
  same : ∀ q, q ∈ gs → H' q = H q
structure Turned (gs : List Nat) (g : Nat) (H H' : Heap) : Prop where
  le : Heap.le (rem H gs) (rem H' gs)
  same : ∀ q, q ∈ gs → q ≠ g → H' q = H q
theorem Kept.refl (gs : List Nat) (H : Heap) : Kept gs H H := ⟨.refl _, fun _ _ => rfl⟩
theorem Kept.trans {gs : List Nat} {A B C : Heap} (h : Kept gs A B) (k : Kept gs B C) : Kept gs A C := ⟨h.le.trans k.le, fun q hq => (k.same q hq).trans (h.same q hq)⟩
theorem Turned.trans {gs : List Nat} {g : Nat} {A B C : Heap} (h : Turned gs g A B) (k : Turned gs g B C) : Turned gs g A C := ⟨h.le.trans k.le, fun q hq hne => (k.same q hq hne).trans (h.same q hq hne)⟩
theorem Kept.turned {gs : List Nat} {H H' : Heap} (h : Kept gs H H') (g : Nat) : Turned gs g H H' := ⟨h.le, fun q hq _ => h.same q hq⟩
theorem Turned.ins {gs : List Nat} {g : Nat} {H H' : Heap} (h : Turned gs g H H') (hg : g ∈ gs) (e : Ent) : Turned gs g H (ins H' g e) :=
  ⟨by rw [rem_ins_in _ hg]; exact h.le, fun q hq hne => by rw [ins_other _ _ hne]; exact h.same q hq hne⟩
theorem Kept.of {gs : List Nat} {H H' : Heap} {v : Value} {Post : Value → Heap → Prop} (h : Framed gs Post H v H') (hl : ∀ v K, Post v K → Heap.le (rem H gs) K) : Kept gs H H' := ⟨hl _ _ h.post, h.same⟩
theorem Kept.ne {gs : List Nat} {H H' : Heap} (h : Kept gs H H') (hn : ∀ q, q ∈ gs → H q ≠ none) : ∀ q, q ∈ gs → H' q ≠ none := fun q hq => by rw [h.same q hq]; exact hn q hq
/-- What a call returns that gives a number, with blocks set apart. -/
structure FrM (gs : List Nat) (H : Heap) (q : Rat) (v : Value) (H' : Heap) : Prop where
  kept : Kept gs H H'
  le : Heap.le H H'
  val : ∃ n d b, v = N3 n d b ∧ NumV (rem H' gs) [.int .i64 n, .int .i64 d, .pointer b] q
structure FrI (gs : List Nat) (H : Heap) (x : Value) (v : Value) (H' : Heap) : Prop where
  kept : Kept gs H H'
  le : Heap.le H H'
  val : v = x
theorem Fn.frM {P : Program} {f : FuncId} {args : Array Value} {H : Heap} {gs : List Nat} {q : Rat} (hgs : ∀ g, g ∈ gs → H g ≠ none) (h : Fn P f args (rem H gs) (RetM (rem H gs) q)) : Fn P f args H (FrM gs H q) :=
  (Fn.frame hgs h).mono fun v H' hf => by
    refine ⟨.of hf fun v K hp => hp.1, hf.le fun v K hp => hp.1, ?_⟩
    obtain ⟨_, vs, rfl, hn⟩ := hf.post
    obtain ⟨n, d, b, rfl⟩ := hn.cells
    exact ⟨n, d, b, rfl, hn⟩
theorem Fn.frI {P : Program} {f : FuncId} {args : Array Value} {H : Heap} {gs : List Nat} {x : Value} (hgs : ∀ g, g ∈ gs → H g ≠ none) (h : Fn P f args (rem H gs) (fun v H' => Heap.le (rem H gs) H' ∧ v = x)) : Fn P f args H (FrI gs H x) :=
  (Fn.frame hgs h).mono fun v H' hf => ⟨.of hf fun v K hp => hp.1, hf.le fun v K hp => hp.1, hf.post.2⟩
theorem BlkN.set {K H : Heap} {g : Nat} {f b : Nat → Rat} {n k : Nat} {xs : List Value} {sz : Nat} (h2 : Els (NumV K) 3 xs (vals (mixf f b k) n)) (hk : k < n) {vs : List Value} (hv : NumV K vs (f k)) (e : H g = some ⟨splice xs (k * 3) vs, sz, 90, true⟩) : BlkN K H g (vals (mixf f b (k + 1)) n) := by
  refine ⟨_, _, e, ?_⟩
  rw [← mix_set]
  exact h2.set (by rw [vals_len]; exact hk) hv hv.len
end Go.Eng
/- Walks over package simplex, tableau.go, part 1: reduce. -/
namespace Go.Eng
open Go.Proofs Num Lp
theorem reduce_ok {H : Heap} {gs : List Nat} {g gl gr : Nat} {ts : List Value} {Ar : Option Addr} {m cr : Nat} {xs0 : List Value} {row n c1 cl N : Nat} {a b : Nat → Rat} {fs : List Value} {f : Rat}
  (hne : ∀ q, q ∈ gs → H q ≠ none) (hg : g ∈ gs) (hgl : gl ∈ gs) (hgr : gr ∈ gs) (hlr : gl ≠ gr) (hgg : g ≠ gl) (ht : H g = some ⟨ts, 9, 97, true⟩) (ht6 : ts[6]? = some (.slice Ar m cr)) (hrd : Rd (rem H gs) Ar xs0) (hrow : row < m) (hx0 : xs0[row]? = some (.slice (some ⟨gr, 0, none⟩) n c1))
  (hbr : BlkN (rem H gs) H gr (vals a n)) (hbl : BlkN (rem H gs) H gl (vals b n)) (hf : NumV (rem H gs) fs f) (hN : (N : Int) ≤ 549755813888) (hn : (n : Int) ≤ 1099511627776) (sf : szQ f ≤ N) (sa : ∀ j, j < n → szQ (a j) ≤ N) (sb : ∀ j, j < n → szQ (b j) ≤ N) :
  Fn Tryz.prog 125 #[.pointer (some ⟨g, 0, none⟩), .slice (some ⟨gl, 0, none⟩) n cl, .int .i64 (row : Int), .agg fs.toArray] H (fun _ H' => Turned gs gl H H' ∧ BlkN (rem H' gs) H' gl (vals (fun j => b j - f * a j) n)) := by
 obtain ⟨nf, df, bf, rfl⟩ := hf.cells; refine fn_intro (args := [_, _, _, _]) Tryz.func125 rfl rfl Tryz.ntmps125 rfl rfl fun w0 => ?_; refine vc_keep [0, 1, 2, 3] rfl ?_; refine vc_sr ?_; refine vco_box rfl rfl ?_; refine vco_k [0, 1, 2, 7] ?_; refine vc_seq ?_; refine vc_sr ?_; refine vr 1 ?_; refine vco_call rfl rfl (Fn.frI hne (ssign_ok hf (by omega))) ?_; rintro v1 H1 ⟨hk1, hl1, rfl⟩; refine vr 1 ?_; refine vco_k [0, 1, 2, 7, 12] ?_; refine vc_cond rfl (fun hb => ?_) (fun hb => ?_)
 ·
  have hb : f = 0 := sgn_zero (by simpa using hb); refine vc_ret ⟨.inr rfl, _, .nil, ?_⟩; exact ⟨hk1.turned gl, by rw [vals_congr (g := b) (fun j _ => by rw [hb]; grind)]; exact hbl.le hk1.le (hk1.same gl hgl)⟩
 ·
  skip
  refine vc_skip ?_; refine vc_keep [0, 1, 2, 7] rfl ?_; refine vc_sr ?_; refine vr 2 ?_; refine vco_hfld tbOk rfl rfl rfl ?_; refine vco_hload tbOk rfl rfl rfl (by rw [show cell H1 ((⟨g, 0, none⟩ : Addr).add 6) = ts[6]? by simp [cell, addr0, hk1.same g hg, ht]]; exact ht6) ?_; refine vr 1 ?_; refine vco_at tbOk rfl rfl rfl rfl rfl ((hrd.le hk1.le).le (rem_le _ _)) (by rw [Int.toNat_natCast]; exact hx0) (by omega) (by omega) fun _ => ?_; refine vr 2 ?_; refine vco_k [1, 7, 19, 20, 21] ?_; have hbr1 := hbr.le hk1.le (hk1.same gr hgr); have hbl1 := hbl.le hk1.le (hk1.same gl hgl); have hf1 := hf.le hk1.le; have hne1 := hk1.ne hne; clear hbr hbl hf hne ht hrd; refine vc_block ?_; refine vc_loop1 (fun (k : Nat) => n - k) (fun (k : Nat) => put (put (put (put (put (emp) 1 (.val (.slice (some ⟨gl, 0, none⟩) n cl))) 7 (.box [.int .i64 nf, .int .i64 df, .pointer bf])) 19 (.val (.slice (some ⟨gr, 0, none⟩) n c1))) 20 (.val (.int .i64 (n : Int)))) 21 (.val (.int .i64 (k : Int)))) (fun (k : Nat) H' => Turned gs gl H1 H' ∧ BlkN (rem H' gs) H' gl (vals (mixf (fun j => b j - f * a j) b k) n) ∧ k ≤ n) 0 (⟨(Kept.refl _ _).turned _, by rw [mix_zero]; exact hbl1, Nat.zero_le _⟩) sub_auto ?_; rintro k H2 ⟨ht2, hb2, hk2⟩; have hbr2 := hbr1.le ht2.le (ht2.same gr hgr (Ne.symm hlr)); have hf2 := hf1.le ht2.le
  have hne2 : ∀ q, q ∈ gs → H2 q ≠ none := fun q hq => by
   by_cases e : q = gl
   ·
    obtain ⟨xs, sz, h, _⟩ := hb2; rw [e, h]; simp
   · rw [ht2.same q hq e]; exact hne1 q hq
  refine vc_sr ?_; refine vr 1 ?_; refine vco_k [1, 7, 19, 20, 21, 22] ?_; refine vc_seq ?_; refine vc_cond rfl (fun hb => ?_) (fun hb => ?_)
  ·
   have hkn : k < n := by simpa using hb
   obtain ⟨xr, na, da, ba, hrr, hna, hxr⟩ := hbr2.rd (vals_get hkn); obtain ⟨xl, nl, dl, bl, hrl, hnl, hxl⟩ := hb2.rd (vals_get hkn); rw [show mixf (fun j => b j - f * a j) b k k = b k by simp [mixf]] at hnl; have sak := sa k hkn; have sbk := sb k hkn; refine vc_skip ?_; refine vc_keep [1, 7, 19, 20, 21] rfl ?_; refine vc_seq ?_; refine vc_block ?_; refine vc_sr ?_; refine vr 1 ?_; refine vco_at_st (vs := [.int .i64 na, .int .i64 da, .pointer ba]) tbOk rfl rfl rfl rfl hrr rfl (by decide) hxr (by omega) (by omega) fun _ => ?_; refine vco_alloc el90 rfl ?_; refine vr 1 ?_; obtain ⟨ti, hti, htz⟩ := sz90; refine vco_bstore (.inl ⟨rfl, rfl⟩) rfl rfl rfl hti htz rfl rfl rfl ?_; refine vco_k [1, 7, 8, 9, 19, 20, 21] ?_; refine vc_sr ?_; refine vr 1 ?_; refine vco_call rfl rfl (Fn.frI hne2 (ssign_ok hna (by omega))) ?_; rintro v3 H3 ⟨hk3, hl3, rfl⟩; have hne3 := hk3.ne hne2; have hf3 := hf2.le hk3.le; have hna3 := hna.le hk3.le; have hnl3 := hnl.le hk3.le; refine vr 1 ?_; refine vco_k [1, 7, 8, 9, 19, 20, 21, 28] ?_; refine vc_cond rfl (fun hb => ?_) (fun hb => ?_)
   ·
    skip
    refine vc_draw .drawH [0, 1, 2, 3, 4, 5, 6, 7, 8, 9, 10, 11] follows (by kernel_rfl) ?_; refine vr 4 ?_; refine vco_at_st (vs := [.int .i64 nl, .int .i64 dl, .pointer bl]) tbOk rfl rfl rfl rfl (hrl.le hl3) rfl (by decide) hxl (by omega) (by omega) fun _ => ?_; refine vr 2 ?_; refine vco_callM rfl rfl (Fn.frM hne3 (smul_ok (N := N) hf3 hna3 sf sak (by omega))) (fun _ _ h => by first | exact h.le | exact h.1) ?_; rintro v4 H4 ⟨hk4, hl4, n4, d4, b4, rfl, hq4⟩; have hne4 := hk4.ne hne3; have hsm := szQ_mul f (a k); refine vco_callM rfl rfl (Fn.frM hne4 (ssub_ok (N := 2 * N) (hnl3.le hk4.le) hq4 (by omega) (by omega) (by omega))) (fun _ _ h => by first | exact h.le | exact h.1) ?_; rintro v5 H5 ⟨hk5, hl5, n5, d5, b5, rfl, hq5⟩; obtain ⟨xs6, sz6, hg6, hel6⟩ := (hb2.le (hk3.le.trans hk4.le) ((hk4.same gl hgl).trans (hk3.same gl hgl))).le hk5.le (hk5.same gl hgl); have hxl6 := hel6.len; rw [vals_len] at hxl6; obtain ⟨ti, hti, htz⟩ := sz90; refine vco_set (.inr rfl) tbOk rfl rfl rfl (by omega) (by omega) (hg6) rfl (by show 0 + n * 3 ≤ xs6.length; omega) hti htz (fun _ => rfl) rfl rfl rfl fun _ => ?_; refine vco_end ?_; refine vc_keep [1, 7, 19, 20, 21] rfl ?_; refine vc_region rfl ?_; refine vco_add rfl rfl ⟨by omega, by omega⟩ ?_; refine vr 1 ?_; refine vco_end ?_; exact ⟨k + 1, by omega, sub_auto, (((ht2.trans (hk3.turned gl)).trans (hk4.turned gl)).trans (hk5.turned gl)).ins hgl _, by rw [rem_ins_in _ hgl]; exact BlkN.set hel6 hkn hq5 (by rw [ins_same, Nat.zero_add]; rfl), by omega⟩
   ·
    have hz : a k = 0 := sgn_zero (by simpa using hb); refine vc_skip ?_; refine vc_keep [1, 7, 19, 20, 21] rfl ?_; refine vc_region rfl ?_; refine vco_add rfl rfl ⟨by omega, by omega⟩ ?_; refine vr 1 ?_; refine vco_end ?_; exact ⟨k + 1, by omega, sub_auto, ht2.trans (hk3.turned gl), by rw [← mix_skip (show (fun j => b j - f * a j) k = b k by show b k - f * a k = b k; rw [hz]; grind)]; exact hb2.le hk3.le (hk3.same gl hgl), by omega⟩
  ·
   have hb : n ≤ k := by simpa using hb
   obtain rfl : k = n := by omega
   refine vc_exit ?_; refine ⟨.inl rfl, _, .nil, ?_⟩; exact ⟨(hk1.turned gl).trans ht2, by rw [← mix_all (g := b)]; exact hb2⟩
end Go.Eng
/- How a tableau lies in memory, part 2. -/
namespace Go.Eng
open Go.Proofs Num Lp
def IntP (_ : Heap) (vs : List Value) (z : Int) : Prop := vs = [.int .i64 z]
def NatP (_ : Heap) (vs : List Value) (k : Nat) : Prop := vs = [.int .i64 (k : Int)]
theorem intUp : Up IntP := fun _ _ _ _ _ h => h
theorem natUp : Up NatP := fun _ _ _ _ _ h => h
/-- What of a tableau does not turn. -/
structure TL where
  w : Nat
  u : Nat
  plus : List Nat
  minus : List Int
  units : List Nat
  signs : List Rat
/-- Where a tableau lies. -/
structure TG where
  g : Nat
  cr : Nat
  Ar : Option Addr
  pv : Value
  mv : Value
  uv : Value
  sv : Value
  cv : Value
  bv : Value
  rg : List (Nat × Nat)
  cb : List Nat
  bb : List Nat
def TG.gs (G : TG) : List Nat := G.g :: (G.cb ++ (G.bb ++ G.rg.map (·.1)))
def TG.cells (G : TG) (w u m : Nat) : List Value := [.int .i64 (w : Int), .int .i64 (u : Int), G.pv, G.mv, G.uv, G.sv, .slice G.Ar m G.cr, G.cv, G.bv]
def basisC (B : Nat → Nat) (m : Nat) : List Value := (List.range m).map fun i => .int .i64 (B i : Int)
theorem basisC_get {B : Nat → Nat} {m i : Nat} (h : i < m) : (basisC B m)[i]? = some (.int .i64 (B i : Int)) := by simp [basisC, h]
theorem basisC_len (B : Nat → Nat) (m : Nat) : (basisC B m).length = m := by simp [basisC]
theorem basisC_congr {B C : Nat → Nat} {m : Nat} (h : ∀ i, i < m → B i = C i) : basisC B m = basisC C m := by
  unfold basisC
  apply List.map_congr_left
  intro i hi
  rw [h i (List.mem_range.1 hi)]
structure TabV (H : Heap) (G : TG) (L : TL) (T : Tab) : Prop where
  n : T.n = L.w
  uw : L.u ≤ L.w
  st : H G.g = some ⟨G.cells L.w L.u T.m, 9, 97, true⟩
  nd : G.gs.Nodup
  rlen : G.rg.length = T.m
  rows : ∃ xs, Rd (rem H G.gs) G.Ar xs ∧ ∀ (i : Nat) (p : Nat × Nat), G.rg[i]? = some p → xs[i]? = some (.slice (some ⟨p.1, 0, none⟩) (L.w + 1) p.2)
  row : ∀ (i : Nat) (p : Nat × Nat), G.rg[i]? = some p → BlkN (rem H G.gs) H p.1 (vals (T.A i) (L.w + 1))
  basis : (T.m = 0 ∧ G.bb = [] ∧ G.bv = .slice none 0 0) ∨ ∃ gb cb sz, G.bb = [gb] ∧ G.bv = .slice (some ⟨gb, 0, none⟩) T.m cb ∧ H gb = some ⟨basisC T.B T.m, sz, 3, true⟩
  plus : SlV NatP 1 (rem H G.gs) G.pv L.plus
  minus : SlV IntP 1 (rem H G.gs) G.mv L.minus
  units : SlV NatP 1 (rem H G.gs) G.uv L.units
  signs : SlV NumV 3 (rem H G.gs) G.sv L.signs
  cb : ∀ q, q ∈ G.cb → H q ≠ none
/-- The costs. -/
def CostV (H : Heap) (G : TG) (L : TL) (T : Tab) : Prop := ∃ gc cc, G.cb = [gc] ∧ G.cv = .slice (some ⟨gc, 0, none⟩) (L.w + 1) cc ∧ BlkN (rem H G.gs) H gc (vals T.c (L.w + 1))
section
variable {H H' : Heap} {G : TG} {L : TL} {T : Tab}
theorem TG.g_mem (G : TG) : G.g ∈ G.gs := List.mem_cons_self ..
theorem TG.cb_mem {G : TG} {q : Nat} (h : q ∈ G.cb) : q ∈ G.gs := List.mem_cons_of_mem _ (List.mem_append_left _ h)
theorem TG.bb_mem {G : TG} {q : Nat} (h : q ∈ G.bb) : q ∈ G.gs := List.mem_cons_of_mem _ (List.mem_append_right _ (List.mem_append_left _ h))
theorem TG.rg_mem {G : TG} {i : Nat} {p : Nat × Nat} (h : G.rg[i]? = some p) : p.1 ∈ G.gs := List.mem_cons_of_mem _ (List.mem_append_right _ (List.mem_append_right _ (List.mem_map.2 ⟨p, List.mem_of_getElem? h, rfl⟩)))
theorem TabV.ne (h : TabV H G L T) : ∀ q, q ∈ G.gs → H q ≠ none := fun q hq => by
  rcases List.mem_cons.1 hq with rfl | hq
  · rw [h.st]; simp
  · rcases List.mem_append.1 hq with hq | hq
    · exact h.cb q hq
    · rcases List.mem_append.1 hq with hq | hq
      · rcases h.basis with ⟨_, h1, _⟩ | ⟨gb, cb, sz, h1, _, h2⟩
        · rw [h1] at hq; cases hq
        · rw [h1, List.mem_singleton] at hq
          rw [hq, h2]; simp
      · obtain ⟨p, hp, rfl⟩ := List.mem_map.1 hq
        obtain ⟨i, hi⟩ := List.getElem?_of_mem hp
        obtain ⟨xs, sz, h1, _⟩ := h.row i p hi
        rw [h1]; simp
theorem TabV.cell (h : TabV H G L T) {k : Nat} {v : Value} (hk : (G.cells L.w L.u T.m)[k]? = some v) : Eng.cell H ((⟨G.g, 0, none⟩ : Addr).add k) = some v := by
  simp [Eng.cell, addr0, h.st, hk]
theorem TabV.cell0 (h : TabV H G L T) : Eng.cell H (⟨G.g, 0, none⟩ : Addr) = some (.int .i64 (L.w : Int)) := by
  have := h.cell (k := 0) (v := .int .i64 (L.w : Int)) rfl
  rwa [addr0] at this
/-- Blocks that differ. -/
theorem TG.nd_g {G : TG} (h : G.gs.Nodup) {q : Nat} (hq : q ∈ G.cb ∨ q ∈ G.bb ∨ ∃ (i : Nat) (p : Nat × Nat), G.rg[i]? = some p ∧ p.1 = q) : G.g ≠ q := by
  have h1 := (List.nodup_cons.1 h).1
  intro e
  subst e
  apply h1
  rcases hq with hq | hq | ⟨i, p, hp, he⟩
  · exact List.mem_append_left _ hq
  · exact List.mem_append_right _ (List.mem_append_left _ hq)
  · exact List.mem_append_right _ (List.mem_append_right _ (List.mem_map.2 ⟨p, List.mem_of_getElem? hp, he⟩))
theorem TG.nd_cb {G : TG} (h : G.gs.Nodup) {q r : Nat} (hq : q ∈ G.cb) (hr : r ∈ G.bb ∨ ∃ (i : Nat) (p : Nat × Nat), G.rg[i]? = some p ∧ p.1 = r) : q ≠ r := by
  have h1 := (List.nodup_append.1 (List.nodup_cons.1 h).2).2.2 q hq
  refine h1 r ?_
  rcases hr with hr | ⟨i, p, hp, he⟩
  · exact List.mem_append_left _ hr
  · exact List.mem_append_right _ (List.mem_map.2 ⟨p, List.mem_of_getElem? hp, he⟩)
theorem TG.nd_bb {G : TG} (h : G.gs.Nodup) {q : Nat} (hq : q ∈ G.bb) {i : Nat} {p : Nat × Nat} (hp : G.rg[i]? = some p) : q ≠ p.1 :=
  (List.nodup_append.1 (List.nodup_append.1 (List.nodup_cons.1 h).2).2.1).2.2 q hq p.1 (List.mem_map.2 ⟨p, List.mem_of_getElem? hp, rfl⟩)
theorem TG.nd_rg {G : TG} (h : G.gs.Nodup) {i j : Nat} {p q : Nat × Nat} (hp : G.rg[i]? = some p) (hq : G.rg[j]? = some q) (hne : i ≠ j) : p.1 ≠ q.1 := by
  have h1 := (List.nodup_append.1 (List.nodup_append.1 (List.nodup_cons.1 h).2).2.1).2.1
  intro e
  have hi : (G.rg.map (·.1))[i]? = some p.1 := by rw [List.getElem?_map, hp]; rfl
  have hj : (G.rg.map (·.1))[j]? = some p.1 := by rw [List.getElem?_map, hq, e]; rfl
  obtain ⟨hi1, hi2⟩ := List.getElem?_eq_some_iff.1 hi
  obtain ⟨hj1, hj2⟩ := List.getElem?_eq_some_iff.1 hj
  exact hne ((List.getElem_inj h1).1 (hi2.trans hj2.symm))
theorem TabV.kept (h : TabV H G L T) (k : Kept G.gs H H') : TabV H' G L T where
  n := h.n
  uw := h.uw
  st := by rw [k.same _ G.g_mem]; exact h.st
  nd := h.nd
  rlen := h.rlen
  rows := by obtain ⟨xs, h1, h2⟩ := h.rows; exact ⟨xs, h1.le k.le, h2⟩
  row := fun i p hp => (h.row i p hp).le k.le (k.same _ (TG.rg_mem hp))
  basis := by
    rcases h.basis with h1 | ⟨gb, cb, sz, h1, h2, h3⟩
    · exact .inl h1
    · exact .inr ⟨gb, cb, sz, h1, h2, by rw [k.same _ (TG.bb_mem (by rw [h1]; exact List.mem_singleton.2 rfl))]; exact h3⟩
  plus := h.plus.le natUp k.le
  minus := h.minus.le intUp k.le
  units := h.units.le natUp k.le
  signs := h.signs.le numUp k.le
  cb := fun q hq => by rw [k.same _ (TG.cb_mem hq)]; exact h.cb q hq
theorem CostV.kept (h : CostV H G L T) (k : Kept G.gs H H') : CostV H' G L T := by
  obtain ⟨gc, cc, h1, h2, h3⟩ := h
  exact ⟨gc, cc, h1, h2, h3.le k.le (k.same _ (TG.cb_mem (by rw [h1]; exact List.mem_singleton.2 rfl)))⟩
/-- The same with other functions of the same values. -/
theorem TabV.congr {T' : Tab} (h : TabV H G L T) (hm : T'.m = T.m) (hn : T'.n = T.n) (hA : ∀ i, i < T.m → ∀ j, j ≤ T.n → T'.A i j = T.A i j) (hB : ∀ i, i < T.m → T'.B i = T.B i) : TabV H G L T' where
  n := hn.trans h.n
  uw := h.uw
  st := by rw [hm]; exact h.st
  nd := h.nd
  rlen := h.rlen.trans hm.symm
  rows := h.rows
  row := fun i p hp => by
    have hi : i < T.m := by rw [← h.rlen]; exact (List.getElem?_eq_some_iff.1 hp).1
    rw [vals_congr (g := T.A i) (fun j hj => hA i hi j (by rw [h.n]; omega))]; exact h.row i p hp
  basis := by
    rw [hm, basisC_congr hB]; exact h.basis
  plus := h.plus
  minus := h.minus
  units := h.units
  signs := h.signs
  cb := h.cb
theorem CostV.congr {T' : Tab} (h : CostV H G L T) (hc : ∀ j, j ≤ L.w → T'.c j = T.c j) : CostV H G L T' := by
  obtain ⟨gc, cc, h1, h2, h3⟩ := h
  exact ⟨gc, cc, h1, h2, by rw [vals_congr (g := T.c) (fun j hj => hc j (by omega))]; exact h3⟩
def _root_.Lp.Tab.setRow (T : Tab) (i : Nat) (f : Nat → Rat) : Tab := { T with A := fun k => if k = i then f else T.A k }
/-- A row turned. -/
theorem TabV.setRow (h : TabV H G L T) {i : Nat} {p : Nat × Nat} (hp : G.rg[i]? = some p) (k : Turned G.gs p.1 H H') {f : Nat → Rat} (hb : BlkN (rem H' G.gs) H' p.1 (vals f (L.w + 1))) : TabV H' G L (T.setRow i f) where
  n := h.n
  uw := h.uw
  st := by rw [k.same _ G.g_mem (TG.nd_g h.nd (.inr (.inr ⟨i, p, hp, rfl⟩)))]; exact h.st
  nd := h.nd
  rlen := h.rlen
  rows := by obtain ⟨xs, h1, h2⟩ := h.rows; exact ⟨xs, h1.le k.le, h2⟩
  row := fun j q hq => by
    by_cases e : j = i
    · subst e
      rw [hp] at hq
      cases hq
      simp only [Tab.setRow, if_true]
      exact hb
    · simp only [Tab.setRow, if_neg e]
      exact (h.row j q hq).le k.le (k.same _ (TG.rg_mem hq) (TG.nd_rg h.nd hq hp e))
  basis := by
    rcases h.basis with h1 | ⟨gb, cb, sz, h1, h2, h3⟩
    · exact .inl h1
    · have hm : gb ∈ G.bb := by rw [h1]; exact List.mem_singleton.2 rfl
      exact .inr ⟨gb, cb, sz, h1, h2, by rw [k.same _ (TG.bb_mem hm) (TG.nd_bb h.nd hm hp)]; exact h3⟩
  plus := h.plus.le natUp k.le
  minus := h.minus.le intUp k.le
  units := h.units.le natUp k.le
  signs := h.signs.le numUp k.le
  cb := fun q hq => by rw [k.same _ (TG.cb_mem hq) (TG.nd_cb h.nd hq (.inr ⟨i, p, hp, rfl⟩))]; exact h.cb q hq
theorem CostV.setRow (h : CostV H G L T) (nd : G.gs.Nodup) {i : Nat} {p : Nat × Nat} (hp : G.rg[i]? = some p) (k : Turned G.gs p.1 H H') (f : Nat → Rat) : CostV H' G L (T.setRow i f) := by
  obtain ⟨gc, cc, h1, h2, h3⟩ := h
  have hm : gc ∈ G.cb := by rw [h1]; exact List.mem_singleton.2 rfl
  exact ⟨gc, cc, h1, h2, h3.le k.le (k.same _ (TG.cb_mem hm) (TG.nd_cb nd hm (.inr ⟨i, p, hp, rfl⟩)))⟩
/-- The costs turned. -/
theorem TabV.setCost (h : TabV H G L T) {gc : Nat} (hc : G.cb = [gc]) (k : Turned G.gs gc H H') {f : Nat → Rat} (hb : BlkN (rem H' G.gs) H' gc (vals f (L.w + 1))) : TabV H' G L { T with c := f } := by
  have hm : gc ∈ G.cb := by rw [hc]; exact List.mem_singleton.2 rfl
  exact
  { n := h.n
    uw := h.uw
    st := by rw [k.same _ G.g_mem (TG.nd_g h.nd (.inl hm))]; exact h.st
    nd := h.nd
    rlen := h.rlen
    rows := by obtain ⟨xs, h1, h2⟩ := h.rows; exact ⟨xs, h1.le k.le, h2⟩
    row := fun j q hq => (h.row j q hq).le k.le (k.same _ (TG.rg_mem hq) (fun e => TG.nd_cb h.nd hm (.inr ⟨j, q, hq, rfl⟩) e.symm))
    basis := by
      rcases h.basis with h1 | ⟨gb, cb, sz, h1, h2, h3⟩
      · exact .inl h1
      · have hm' : gb ∈ G.bb := by rw [h1]; exact List.mem_singleton.2 rfl
        exact .inr ⟨gb, cb, sz, h1, h2, by rw [k.same _ (TG.bb_mem hm') (fun e => TG.nd_cb h.nd hm (.inl hm') e.symm)]; exact h3⟩
    plus := h.plus.le natUp k.le
    minus := h.minus.le intUp k.le
    units := h.units.le natUp k.le
    signs := h.signs.le numUp k.le
    cb := fun q hq => by
      rw [hc, List.mem_singleton] at hq
      obtain ⟨xs, sz, h1, _⟩ := hb
      rw [hq, h1]; simp }
/-- The basis turned. -/
theorem TabV.setBasis (h : TabV H G L T) {gb cb sz : Nat} (hb : G.bb = [gb]) (hv : G.bv = .slice (some ⟨gb, 0, none⟩) T.m cb) {r s : Nat} {e : Ent} (he : e = ⟨basisC (fun i => if i = r then s else T.B i) T.m, sz, 3, true⟩) : TabV (ins H gb e) G L { T with B := fun i => if i = r then s else T.B i } := by
  have hm : gb ∈ G.bb := by rw [hb]; exact List.mem_singleton.2 rfl
  have k : Turned G.gs gb H (ins H gb e) := ((Kept.refl _ _).turned gb).ins (TG.bb_mem hm) e
  exact
  { n := h.n
    uw := h.uw
    st := by rw [k.same _ G.g_mem (TG.nd_g h.nd (.inr (.inl hm)))]; exact h.st
    nd := h.nd
    rlen := h.rlen
    rows := by obtain ⟨xs, h1, h2⟩ := h.rows; exact ⟨xs, h1.le k.le, h2⟩
    row := fun j q hq => (h.row j q hq).le k.le (k.same _ (TG.rg_mem hq) (fun e => TG.nd_bb h.nd hm hq e.symm))
    basis := .inr ⟨gb, cb, sz, hb, hv, by rw [ins_same, he]⟩
    plus := h.plus.le natUp k.le
    minus := h.minus.le intUp k.le
    units := h.units.le natUp k.le
    signs := h.signs.le numUp k.le
    cb := fun q hq => by rw [k.same _ (TG.cb_mem hq) (TG.nd_cb h.nd hq (.inl hm))]; exact h.cb q hq }
theorem CostV.setBasis (h : CostV H G L T) (nd : G.gs.Nodup) {gb : Nat} (hb : G.bb = [gb]) (e : Ent) (B : Nat → Nat) : CostV (ins H gb e) G L { T with B := B } := by
  have hm : gb ∈ G.bb := by rw [hb]; exact List.mem_singleton.2 rfl
  have k : Turned G.gs gb H (ins H gb e) := ((Kept.refl _ _).turned gb).ins (TG.bb_mem hm) e
  obtain ⟨gc, cc, h1, h2, h3⟩ := h
  have hmc : gc ∈ G.cb := by rw [h1]; exact List.mem_singleton.2 rfl
  exact ⟨gc, cc, h1, h2, h3.le k.le (k.same _ (TG.cb_mem hmc) (TG.nd_cb nd hmc (.inl hm)))⟩
/-- The numbers are of a bounded size. -/
structure Sz (N : Nat) (T : Tab) : Prop where
  A : ∀ i, i < T.m → ∀ j, j ≤ T.n → szQ (T.A i j) ≤ N
  c : ∀ j, j ≤ T.n → szQ (T.c j) ≤ N
end
end Go.Eng
/- Walks over package simplex, tableau.go, part 2: pivot. -/
namespace Go.Eng
open Go.Proofs Num Lp
section
variable {H : Heap} {G : TG} {L : TL} {T : Tab} {N : Nat} {fs : List Value} {f : Rat}
theorem red_row (h : TabV H G L T) {i r : Nat} {p q : Nat × Nat} (hp : G.rg[i]? = some p) (hq : G.rg[r]? = some q) (hne : i ≠ r) (hf : NumV (rem H G.gs) fs f) (hN : (N : Int) ≤ 549755813888) (hw : (L.w : Int) ≤ 1000000) (sf : szQ f ≤ N) (si : ∀ j, j ≤ L.w → szQ (T.A i j) ≤ N) (sr : ∀ j, j ≤ L.w → szQ (T.A r j) ≤ N) :
    Fn Tryz.prog 125 #[.pointer (some ⟨G.g, 0, none⟩), .slice (some ⟨p.1, 0, none⟩) (L.w + 1) p.2, .int .i64 (r : Int), .agg fs.toArray] H (fun _ H' => TabV H' G L (T.setRow i (fun j => T.A i j - f * T.A r j)) ∧ Turned G.gs p.1 H H') := by
  obtain ⟨xs0, hrd, hx0⟩ := h.rows
  refine (reduce_ok (N := N) h.ne G.g_mem (TG.rg_mem hp) (TG.rg_mem hq) (TG.nd_rg h.nd hp hq hne) (TG.nd_g h.nd (.inr (.inr ⟨i, p, hp, rfl⟩))) h.st rfl hrd ?_ (hx0 r q hq) (h.row r q hq) (h.row i p hp) hf hN (by omega) sf (fun j hj => sr j (by omega)) (fun j hj => si j (by omega))).mono fun v H' hh => ⟨h.setRow hp hh.1 hh.2, hh.1⟩
  rw [← h.rlen]; exact (List.getElem?_eq_some_iff.1 hq).1
theorem red_cost (h : TabV H G L T) (hc : CostV H G L T) {r : Nat} {q : Nat × Nat} (hq : G.rg[r]? = some q) (hf : NumV (rem H G.gs) fs f) (hN : (N : Int) ≤ 549755813888) (hw : (L.w : Int) ≤ 1000000) (sf : szQ f ≤ N) (si : ∀ j, j ≤ L.w → szQ (T.c j) ≤ N) (sr : ∀ j, j ≤ L.w → szQ (T.A r j) ≤ N) :
    Fn Tryz.prog 125 #[.pointer (some ⟨G.g, 0, none⟩), G.cv, .int .i64 (r : Int), .agg fs.toArray] H (fun _ H' => TabV H' G L { T with c := fun j => T.c j - f * T.A r j } ∧ CostV H' G L { T with c := fun j => T.c j - f * T.A r j } ∧ Heap.le (rem H G.gs) (rem H' G.gs)) := by
  obtain ⟨xs0, hrd, hx0⟩ := h.rows
  obtain ⟨gc, cc, h1, h2, h3⟩ := hc
  have hm : gc ∈ G.cb := by rw [h1]; exact List.mem_singleton.2 rfl
  rw [h2]
  refine (reduce_ok (N := N) h.ne G.g_mem (TG.cb_mem hm) (TG.rg_mem hq) (TG.nd_cb h.nd hm (.inr ⟨r, q, hq, rfl⟩)) (TG.nd_g h.nd (.inl hm)) h.st rfl hrd ?_ (hx0 r q hq) (h.row r q hq) h3 hf hN (by omega) sf (fun j hj => sr j (by omega)) (fun j hj => si j (by omega))).mono fun v H' hh => ⟨h.setCost h1 hh.1 hh.2, ⟨gc, cc, h1, h2, hh.2⟩, hh.1.le⟩
  rw [← h.rlen]; exact (List.getElem?_eq_some_iff.1 hq).1
end
theorem basisC_set {B : Nat → Nat} {m r s : Nat} : (basisC B m).set r (.int .i64 (s : Int)) = basisC (fun i => if i = r then s else B i) m := by
  apply List.ext_getElem?
  intro i
  by_cases hi : i < m
  · by_cases e : i = r
    · subst e
      rw [List.getElem?_set_self (by rw [basisC_len]; exact hi), basisC_get hi, if_pos rfl]
    · rw [List.getElem?_set_ne (fun e' => e e'.symm), basisC_get hi, basisC_get hi, if_neg e]
  · rw [List.getElem?_eq_none (by rw [List.length_set, basisC_len]; omega), List.getElem?_eq_none (by rw [basisC_len]; omega)]
/-- The rows below k are done. -/
def pvt (T : Tab) (r s k : Nat) : Tab := { T with A := fun i => if i = r then (fun j => T.A r j / T.A r s) else if i < k then (fun j => T.A i j - T.A i s * (T.A r j / T.A r s)) else T.A i }
theorem pvt_step {T : Tab} {r s k : Nat} (hk : k ≠ r) (i j : Nat) : (pvt T r s (k + 1)).A i j = ((pvt T r s k).setRow k (fun j => (pvt T r s k).A k j - T.A k s * (pvt T r s k).A r j)).A i j := by
  unfold Tab.setRow pvt
  simp only
  by_cases e1 : i = k
  · subst e1
    rw [if_neg hk, if_pos (by omega), if_pos rfl, if_neg hk, if_neg (by omega), if_pos trivial]
  · rw [if_neg e1]
    by_cases e2 : i = r
    · rw [if_pos e2, if_pos e2]
    · rw [if_neg e2, if_neg e2]
      by_cases e3 : i < k
      · rw [if_pos (by omega), if_pos e3]
      · rw [if_neg (by omega), if_neg e3]
theorem pvt_skip {T : Tab} {r s k : Nat} (hk : k = r) (i j : Nat) : (pvt T r s (k + 1)).A i j = (pvt T r s k).A i j := by
  unfold pvt
  simp only
  by_cases e2 : i = r
  · rw [if_pos e2, if_pos e2]
  · rw [if_neg e2, if_neg e2]
    by_cases e3 : i < k
    · rw [if_pos (by omega), if_pos e3]
    · rw [if_neg (by omega), if_neg e3]
theorem TabV.get {H : Heap} {G : TG} {L : TL} {T : Tab} (h : TabV H G L T) {i : Nat} (hi : i < T.m) : ∃ p, G.rg[i]? = some p := ⟨_, List.getElem?_eq_getElem (by rw [h.rlen]; exact hi)⟩
theorem pivot_ok {H : Heap} {G : TG} {L : TL} {T : Tab} {N r s : Nat} (h : TabV H G L T) (hc : CostV H G L T) (hr : r < T.m) (hs : s < L.w) (hp : T.A r s ≠ 0) (hz : Sz N T) (hz' : Sz N (T.pivot r s)) (hN : (N : Int) ≤ 549755813888) (hw : (L.w : Int) ≤ 1000000) (hm : (T.m : Int) ≤ 1000000) :
  Fn Tryz.prog 127 #[.pointer (some ⟨G.g, 0, none⟩), .int .i64 (r : Int), .int .i64 (s : Int)] H (fun _ H' => TabV H' G L (T.pivot r s) ∧ CostV H' G L (T.pivot r s) ∧ Heap.le (rem H G.gs) (rem H' G.gs)) := by
 obtain ⟨pr, hpr⟩ := h.get hr
 obtain ⟨xs0, hrd, hx0⟩ := h.rows
 have hsn : s ≤ T.n := by rw [h.n]; omega
 have hzr : ∀ j, j ≤ L.w → szQ (T.A r j / T.A r s) ≤ N := fun j hj => by
  have := hz'.A r hr j (by show j ≤ T.n; rw [h.n]; exact hj)
  simpa [Tab.pivot] using this
 have hza : ∀ i, i < T.m → ∀ j, j ≤ L.w → szQ (T.A i j) ≤ N := fun i hi j hj => hz.A i hi j (by rw [h.n]; exact hj)
 obtain ⟨xp, np, dp, bp, hrp, hnp, hxp⟩ := (h.row r pr hpr).rd (vals_get (show s < L.w + 1 by omega)); refine fn_intro (args := [_, _, _]) Tryz.func127 rfl rfl Tryz.ntmps127 rfl rfl fun w0 => ?_; refine vc_keep [0, 1, 2] rfl ?_; refine vc_sr ?_; refine vr 2 ?_; refine vco_hfld tbOk rfl rfl rfl ?_; refine vco_hload tbOk rfl rfl rfl (h.cell rfl) ?_; refine vr 1 ?_; refine vco_at tbOk rfl rfl rfl rfl rfl (hrd.le (rem_le _ _)) (by rw [Int.toNat_natCast]; exact hx0 r pr hpr) (by omega) (by omega) fun _ => ?_; refine vr 1 ?_; refine vco_k [0, 1, 2, 6] ?_; refine vc_sr ?_; refine vr 2 ?_; refine vco_at_st (vs := [.int .i64 np, .int .i64 dp, .pointer bp]) tbOk rfl rfl rfl rfl hrp rfl (by decide) (by rw [Int.toNat_natCast]; exact hxp) (by omega) (by omega) fun _ => ?_; refine vco_alloc el90 rfl ?_; obtain ⟨ti, hti, htz⟩ := sz90; refine vco_bstore (.inl ⟨rfl, rfl⟩) rfl rfl rfl hti htz rfl rfl rfl ?_; refine vco_k [0, 1, 2, 6, 7] ?_; refine vc_seq ?_; refine vc_sr ?_; refine vr 3 ?_; refine vco_k [0, 1, 2, 6, 7, 23, 24, 25] ?_; refine vc_block ?_; refine vc_loop1 (fun (k : Nat) => L.w + 1 - k) (fun (k : Nat) => put (put (put (put (put (put (put (put (emp) 0 (.val (.pointer (some ⟨G.g, 0, none⟩)))) 1 (.val (.int .i64 (r : Int)))) 2 (.val (.int .i64 (s : Int)))) 6 (.val (.slice (some ⟨pr.1, 0, none⟩) (L.w + 1) pr.2))) 7 (.box [.int .i64 np, .int .i64 dp, .pointer bp])) 23 (.val (.slice (some ⟨pr.1, 0, none⟩) (L.w + 1) pr.2))) 24 (.val (.int .i64 ((L.w + 1 : Nat) : Int)))) 25 (.val (.int .i64 (k : Int)))) (fun (k : Nat) H' => Turned G.gs pr.1 H H' ∧ BlkN (rem H' G.gs) H' pr.1 (vals (mixf (fun j => T.A r j / T.A r s) (T.A r) k) (L.w + 1)) ∧ k ≤ L.w + 1) 0 (⟨(Kept.refl _ _).turned _, by rw [mix_zero]; exact h.row r pr hpr, Nat.zero_le _⟩) sub_auto ?_
 rintro k H2 ⟨ht2, hb2, hk2⟩; have hnp2 := hnp.le ht2.le
 have hne2 : ∀ q, q ∈ G.gs → H2 q ≠ none := fun q hq => by
  by_cases e : q = pr.1
  ·
   obtain ⟨xs, sz, h, _⟩ := hb2; rw [e, h]; simp
  · rw [ht2.same q hq e]; exact h.ne q hq
 refine vc_sr ?_; refine vr 1 ?_; refine vco_k [0, 1, 2, 6, 7, 23, 24, 25, 26] ?_; refine vc_seq ?_; refine vc_cond rfl (fun hb => ?_) (fun hb => ?_)
 ·
  have hkn : k < L.w + 1 := by simp at hb; omega
  obtain ⟨xl, nl, dl, bl, hrl, hnl, hxl⟩ := hb2.rd (vals_get hkn); rw [show mixf (fun j => T.A r j / T.A r s) (T.A r) k k = T.A r k by simp [mixf]] at hnl; have sak := hza r hr k (by omega); have sbk := hza r hr s (by omega); refine vc_skip ?_; refine vc_keep [0, 1, 2, 6, 7, 23, 24, 25] rfl ?_; refine vc_seq ?_; refine vc_block ?_; refine vc_sr ?_; refine vr 1 ?_; refine vco_at_st (vs := [.int .i64 nl, .int .i64 dl, .pointer bl]) tbOk rfl rfl rfl rfl hrl rfl (by decide) hxl (by omega) (by omega) fun _ => ?_; refine vco_alloc el90 rfl ?_; refine vr 1 ?_; obtain ⟨ti, hti, htz⟩ := sz90; refine vco_bstore (.inl ⟨rfl, rfl⟩) rfl rfl rfl hti htz rfl rfl rfl ?_; refine vco_k [0, 1, 2, 6, 7, 8, 9, 23, 24, 25] ?_; refine vc_sr ?_; refine vr 1 ?_; refine vco_call rfl rfl (Fn.frI hne2 (ssign_ok hnl (by omega))) ?_; rintro v3 H3 ⟨hk3, hl3, rfl⟩; have hne3 := hk3.ne hne2; refine vr 1 ?_; refine vco_k [0, 1, 2, 6, 7, 8, 9, 23, 24, 25, 32] ?_; refine vc_cond rfl (fun hb => ?_) (fun hb => ?_)
  ·
   skip
   refine vc_region rfl ?_; refine vr 4 ?_; refine vco_call rfl rfl (Fn.frM hne3 (sdiv_ok (N := N) (hnl.le hk3.le) (hnp2.le hk3.le) sak sbk (by omega) hp)) ?_; rintro v4 H4 ⟨hk4, hl4, n4, d4, b4, rfl, hq4⟩; obtain ⟨xs6, sz6, hg6, hel6⟩ := hb2.le (hk3.le.trans hk4.le) ((hk4.same _ (TG.rg_mem hpr)).trans (hk3.same _ (TG.rg_mem hpr))); have hxl6 := hel6.len; rw [vals_len] at hxl6; obtain ⟨ti, hti, htz⟩ := sz90; refine vco_set (.inl rfl) tbOk rfl rfl rfl (by omega) (by omega) (hg6) rfl (by show 0 + (L.w + 1) * 3 ≤ xs6.length; omega) hti htz (fun _ => rfl) rfl rfl rfl fun _ => ?_; refine vco_end ?_; refine vc_keep [0, 1, 2, 6, 7, 23, 24, 25] rfl ?_; refine vc_region rfl ?_; refine vco_add rfl rfl ⟨by omega, by omega⟩ ?_; refine vr 1 ?_; refine vco_end ?_; exact ⟨k + 1, by omega, sub_auto, ((ht2.trans (hk3.turned _)).trans (hk4.turned _)).ins (TG.rg_mem hpr) _, by rw [rem_ins_in _ (TG.rg_mem hpr)]; exact BlkN.set hel6 hkn hq4 (by rw [ins_same, Nat.zero_add]; rfl), by omega⟩
  ·
   have hz0 : T.A r k = 0 := sgn_zero (by simpa using hb); refine vc_skip ?_; refine vc_keep [0, 1, 2, 6, 7, 23, 24, 25] rfl ?_; refine vc_region rfl ?_; refine vco_add rfl rfl ⟨by omega, by omega⟩ ?_; refine vr 1 ?_; refine vco_end ?_; exact ⟨k + 1, by omega, sub_auto, ht2.trans (hk3.turned _), by rw [← mix_skip (show (fun j => T.A r j / T.A r s) k = T.A r k by show T.A r k / T.A r s = T.A r k; rw [hz0, Rat.div_def, Rat.zero_mul])]; exact hb2.le hk3.le (hk3.same _ (TG.rg_mem hpr)), by omega⟩
 ·
  have hb : L.w + 1 ≤ k := by simp at hb; omega
  obtain rfl : k = L.w + 1 := by omega
  rw [mix_all] at hb2; have hle2 := ht2.le; have hc3 := (hc.setRow h.nd hpr ht2 (fun j => T.A r j / T.A r s)).congr (T' := pvt T r s 0) (fun j _ => rfl); have h3 := (h.setRow hpr ht2 hb2).congr (T' := pvt T r s 0) rfl rfl (fun i hi j hj => by simp only [pvt, Tab.setRow]; split <;> rfl) (fun i hi => rfl); refine vc_exit ?_; refine vc_keep [0, 1, 2] rfl ?_; refine vc_seq ?_; refine vc_sr ?_; refine vr 2 ?_; refine vco_hfld tbOk rfl rfl rfl ?_; refine vco_hload tbOk rfl rfl rfl (h3.cell rfl) ?_; refine vr 2 ?_; refine vco_k [0, 1, 2, 43, 44, 45] ?_; refine vc_block ?_; refine vc_loop1 (fun (k : Nat) => T.m - k) (fun (k : Nat) => put (put (put (put (put (put (emp) 0 (.val (.pointer (some ⟨G.g, 0, none⟩)))) 1 (.val (.int .i64 (r : Int)))) 2 (.val (.int .i64 (s : Int)))) 43 (.val (.slice G.Ar T.m G.cr))) 44 (.val (.int .i64 (T.m : Int)))) 45 (.val (.int .i64 (k : Int)))) (fun (k : Nat) H' => TabV H' G L (pvt T r s k) ∧ CostV H' G L (pvt T r s k) ∧ Heap.le (rem H G.gs) (rem H' G.gs) ∧ k ≤ T.m) 0 (⟨h3, hc3, hle2, Nat.zero_le _⟩) sub_auto ?_; rintro k H4 ⟨h4, hc4, hle4, hk4⟩; refine vc_sr ?_; refine vr 1 ?_; refine vco_k [0, 1, 2, 43, 44, 45, 46] ?_; refine vc_seq ?_; refine vc_cond rfl (fun hb => ?_) (fun hb => ?_)
  ·
   have hkm : k < T.m := by simpa using hb
   obtain ⟨pk, hpk⟩ := h.get hkm; obtain ⟨xs4, hrd4, hx4⟩ := h4.rows; refine vc_skip ?_; refine vc_keep [0, 1, 2, 43, 44, 45] rfl ?_; refine vc_seq ?_; refine vc_block ?_; refine vc_sr ?_; refine vr 1 ?_; refine vco_at tbOk rfl rfl rfl rfl rfl (hrd4.le (rem_le _ _)) (by rw [Int.toNat_natCast]; exact hx4 k pk hpk) (by omega) (by omega) fun _ => ?_; refine vr 2 ?_; refine vco_k [0, 1, 2, 10, 11, 43, 44, 45] ?_; refine vc_sr ?_; refine vr 3 ?_; refine vco_k [0, 1, 2, 11, 43, 44, 45, 52] ?_; refine vc_cond rfl (fun hb => ?_) (fun hb => ?_)
   ·
    have hkr : k ≠ r := by simp at hb; omega
    obtain ⟨xk, nk, dk, bk, hrk, hnk, hxk⟩ := (h4.row k pk hpk).rd (vals_get (show s < L.w + 1 by omega)); rw [show (pvt T r s k).A k s = T.A k s by simp [pvt, hkr]] at hnk; refine vc_region rfl ?_; refine vr 5 ?_; refine vco_at_st (vs := [.int .i64 nk, .int .i64 dk, .pointer bk]) tbOk rfl rfl rfl rfl hrk rfl (by decide) (by rw [Int.toNat_natCast]; exact hxk) (by omega) (by omega) fun _ => ?_; refine vco_call rfl rfl (red_row (N := N) h4 hpk hpr hkr hnk hN hw (hza k hkm s (by omega)) (fun j hj => by simpa [pvt, hkr] using hza k hkm j hj) (fun j hj => by simpa [pvt] using hzr j hj)) ?_; rintro v5 H5 ⟨h5, ht5⟩; refine vco_end ?_; refine vc_keep [0, 1, 2, 43, 44, 45] rfl ?_; refine vc_region rfl ?_; refine vco_add rfl rfl ⟨by omega, by omega⟩ ?_; refine vr 1 ?_; refine vco_end ?_; exact ⟨k + 1, by omega, sub_auto, h5.congr rfl rfl (fun i hi j hj => pvt_step hkr i j) (fun i hi => rfl), (hc4.setRow h4.nd hpk ht5 (fun _ => 0)).congr (fun j _ => rfl), hle4.trans ht5.le, by omega⟩
   ·
    have hkr : k = r := by simp at hb; omega
    refine vc_skip ?_; refine vc_keep [0, 1, 2, 43, 44, 45] rfl ?_; refine vc_region rfl ?_; refine vco_add rfl rfl ⟨by omega, by omega⟩ ?_; refine vr 1 ?_; refine vco_end ?_; exact ⟨k + 1, by omega, sub_auto, h4.congr rfl rfl (fun i hi j hj => pvt_skip hkr i j) (fun i hi => rfl), hc4.congr (fun j _ => rfl), hle4, by omega⟩
  ·
   have hb : T.m ≤ k := by simpa using hb
   obtain rfl : k = T.m := by omega
   obtain ⟨gc, cc, hcb, hcv, hbc⟩ := id hc4; obtain ⟨xc, nc, dc, bc, hrc, hnc, hxc⟩ := hbc.rd (vals_get (show s < L.w + 1 by omega))
   have hl7 : cell H4 ((⟨G.g, 0, none⟩ : Addr).add 7) = some (.slice (some ⟨gc, 0, none⟩) (L.w + 1) cc) := by rw [← hcv]; exact h4.cell rfl
   refine vc_exit ?_; refine vc_keep [0, 1, 2] rfl ?_; refine vc_sd .drawC [0, 1, 2, 3, 4, 5, 6, 7, 8, 9, 10, 11, 12, 13] follows (by kernel_rfl) ?_; refine vr 3 ?_; refine vco_hfld tbOk rfl rfl rfl ?_; refine vco_hload tbOk rfl rfl rfl (hl7) ?_; refine vr 3 ?_; refine vco_hfld tbOk rfl rfl rfl ?_; refine vco_hload tbOk rfl rfl rfl (hl7) ?_; refine vr 1 ?_; refine vco_at_st (vs := [.int .i64 nc, .int .i64 dc, .pointer bc]) tbOk rfl rfl rfl rfl hrc rfl (by decide) (by rw [Int.toNat_natCast]; exact hxc) (by omega) (by omega) fun _ => ?_; refine vco_callX rfl rfl (by rw [← hcv]; exact red_cost (N := N) h4 hc4 hpr hnc hN hw (hz.c s hsn) (fun j hj => hz.c j (by rw [h.n]; exact hj)) (fun j hj => by simpa [pvt] using hzr j hj)) ?_; rintro v6 H6 ⟨h6, hc6, hle6⟩
   obtain ⟨gb, cb, sz, hbb, hbv, hgb⟩ : ∃ gb cb sz, G.bb = [gb] ∧ G.bv = .slice (some ⟨gb, 0, none⟩) T.m cb ∧ H6 gb = some ⟨basisC T.B T.m, sz, 3, true⟩ := by
    rcases h6.basis with h7 | h7
    ·
     have h8 : T.m = 0 := h7.1
     omega
    · exact h7
   refine vco_k [0, 1, 2] ?_; refine vc_region rfl ?_; refine vr 2 ?_; refine vco_hfld tbOk rfl rfl rfl ?_; refine vco_hload tbOk rfl rfl rfl (show cell H6 _ = some (.slice (some ⟨gb, 0, none⟩) T.m cb) from by rw [← hbv]; exact h6.cell rfl) ?_; refine vr 2 ?_; obtain ⟨ti, hti, htz⟩ := sz3; refine vco_set (.inl rfl) tbOk rfl rfl rfl (by omega) (by omega) (hgb) rfl (by show 0 + T.m * 1 ≤ (basisC T.B T.m).length; rw [basisC_len]; omega) hti htz (fun _ => rfl) rfl rfl rfl fun _ => ?_; refine vco_end ?_; refine ⟨.inl rfl, _, .nil, ?_⟩
   have he : ({ (⟨basisC T.B T.m, sz, 3, true⟩ : Ent) with xs := splice (basisC T.B T.m) (0 + ((r : Int)).toNat * 1) [.int .i64 (s : Int)] } : Ent) = ⟨basisC (fun i => if i = r then s else T.B i) T.m, sz, 3, true⟩ := by
    rw [Int.toNat_natCast, Nat.mul_one, Nat.zero_add, ← basisC_set]; rfl
   refine ⟨(h6.setBasis (r := r) (s := s) (sz := sz) hbb hbv he).congr (T' := T.pivot r s) rfl rfl (fun i hi j hj => ?_) (fun i hi => rfl), (hc6.setBasis h6.nd hbb _ (fun _ => 0)).congr (T' := T.pivot r s) (fun j hj => ?_), ?_⟩
   ·
    have hi' : i < T.m := hi
    simp only [Tab.pivot, pvt]
    by_cases e : i = r
    · simp [e]
    · simp [e, hi']
   · simp [Tab.pivot, pvt]
   ·
    have hmb : gb ∈ G.gs := TG.bb_mem (by rw [hbb]; exact List.mem_singleton.2 rfl); rw [rem_ins_in _ hmb]; exact hle4.trans hle6
end Go.Eng
