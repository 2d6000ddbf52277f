/- Part 4 of the proof: Num1, Lp, Sx, Sy, Prg. -/
import Derived.Test.YtfjncmjbhfdnpaaGreatA03
set_option linter.unusedVariables false
/- Walks over package simplex, number.go, part 1. -/
namespace Go.Eng
open Go.Proofs Num
theorem pt88 : Tryz.prog.underlying 88 = some (.pointer (Tryz.prog.pointee 88)) := by
  unfold Program.pointee; rw [Tryz.underlying88]
theorem cell_whole {H : Heap} {g : Nat} {xs : List Value} {e i : Nat} {v : Value} (h : xs[i]? = some v) : cell (ins H g (whole xs e)) ((⟨g, 0, none⟩ : Addr).add i) = some v := by
  simp [cell, addr0, ins, whole, h]
theorem cell_whole0 {H : Heap} {g : Nat} {x : Value} {xs : List Value} {e : Nat} : cell (ins H g (whole (x :: xs) e)) ⟨g, 0, none⟩ = some x := by
  simp [cell, ins, whole]
theorem cells3 {H : Heap} {ad : Addr} {a b c : Value} (h0 : cell H ad = some a) (h1 : cell H (ad.add 1) = some b) (h2 : cell H (ad.add 2) = some c) : ∀ (i : Nat) (v : Value), [a, b, c][i]? = some v → cell H (ad.add i) = some v := by
  intro i v hv
  match i with
  | 0 => simp only [List.getElem?_cons_zero, Option.some.injEq] at hv; subst hv; simpa [Addr.add] using h0
  | 1 => simp only [List.getElem?_cons_succ, List.getElem?_cons_zero, Option.some.injEq] at hv; subst hv; exact h1
  | 2 => simp only [List.getElem?_cons_succ, List.getElem?_cons_zero, Option.some.injEq] at hv; subst hv; exact h2
  | n + 3 => simp at hv
theorem mul31 {a b : Int} (h1 : -2147483647 ≤ a) (h2 : a ≤ 2147483647) (h3 : -2147483647 ≤ b) (h4 : b ≤ 2147483647) : -4611686014132420609 ≤ a * b ∧ a * b ≤ 4611686014132420609 := by
  have h5 : (a * b).natAbs ≤ 2147483647 * 2147483647 := by rw [Int.natAbs_mul]; exact Nat.mul_le_mul (by omega) (by omega)
  omega
theorem rat_nd (p : Rat) : (p.num : Rat) / ((p.den : Int) : Rat) = p := by
  have := Rat.mkRat_self p
  rwa [Rat.mkRat_eq_div] at this
theorem den_ne (p : Rat) : ((p.den : Int) : Rat) ≠ 0 := fun e => p.den_nz (by exact_mod_cast e)
theorem den_pos (p : Rat) : 0 < p.den := Nat.pos_of_ne_zero p.den_nz
/-- A fraction in lowest terms. -/
theorem lowest {n d : Int} (hd : 0 < d) : (((n : Rat) / (d : Rat)).num = n.tdiv (Nat.gcd n.natAbs d.natAbs : Nat)) ∧ ((n : Rat) / (d : Rat)).den = d.natAbs / Nat.gcd n.natAbs d.natAbs := by
  have h0 : decide (d < 0) = false := decide_eq_false (by omega)
  have hd' : 0 < d.natAbs := by omega
  have e := frac_small n d
  rw [h0] at e
  rw [← e, frac_den hd', frac_num hd']
  refine ⟨?_, rfl⟩
  have hg : (Nat.gcd n.natAbs d.natAbs) ∣ n.natAbs := Nat.gcd_dvd_left _ _
  by_cases hn : n < 0
  · rw [show (decide (n < 0) != false) = true by simp [hn]]
    have e2 : n = -(n.natAbs : Int) := by omega
    conv => rhs; rw [e2, Int.neg_tdiv]
    simp [sg, Int.tdiv_eq_ediv_of_nonneg]
  · rw [show (decide (n < 0) != false) = false by simp [hn]]
    have e2 : n = (n.natAbs : Int) := by omega
    conv => rhs; rw [e2]
    simp [sg, Int.tdiv_eq_ediv_of_nonneg]
theorem tdiv_fit {n : Int} {g : Nat} (h1 : -9223372036854775807 ≤ n) (h2 : n ≤ 9223372036854775807) : -9223372036854775807 ≤ n.tdiv g ∧ n.tdiv g ≤ 9223372036854775807 := by
  have : (n.tdiv g).natAbs ≤ n.natAbs := by
    rw [Int.natAbs_tdiv]; exact Nat.div_le_self _ _
  omega
/-- The value of a struct of a number's three cells. -/
abbrev N3 (n d : Int) (b : Option Addr) : Value := .agg #[.int .i64 n, .int .i64 d, .pointer b]
theorem numV_int (H : Heap) {n : Int} (h1 : -9223372036854775807 ≤ n) (h2 : n ≤ 9223372036854775807) : NumV H [.int .i64 n, .int .i64 1, .pointer none] (n : Rat) :=
  ⟨_, _, _, rfl, .inl ⟨rfl, by simp, by simp, h1, h2, by decide⟩⟩
theorem swhole_ok {H : Heap} {n : Int} :
  Fn Tryz.prog 123 #[.int .i64 n] H (RetE H (N3 n 1 none)) := by
 refine fn_intro (args := [_]) Tryz.func123 rfl rfl Tryz.ntmps123 rfl rfl fun w0 => ?_; refine vc_keep [0] rfl ?_; refine vc_sr ?_; refine vco_alloc el90 rfl ?_; refine vco_k [0, 2] ?_; refine vc_sr ?_; refine vr 1 ?_; refine vco_st tbOk rfl el90 rfl rfl ?_; obtain ⟨ti, hti, htz⟩ := sz90; refine vco_bstore (.inl ⟨rfl, rfl⟩) rfl rfl rfl hti htz rfl rfl rfl ?_; refine vco_k [2] ?_; obtain ⟨ri0, rhi0, rhz0⟩ := sz90; refine vc_ret ⟨.inr rfl, _, .agg rfl Tryz.underlying90 rhi0 rhz0 (.nil), ?_⟩; exact ⟨rfl, rfl⟩
theorem sjoin_ok {H : Heap} {u : Value} {l : List Nat} (hu : LimV H u l) (hl : Lt l) (h2 : l.length ≤ 2) :
  Fn Tryz.prog 188 #[u] H (RetE H (.int .i64 (val l : Nat))) := by
 obtain ⟨A, c, rfl, hc, hr⟩ := hu; refine fn_intro (args := [_]) Tryz.func188 rfl rfl Tryz.ntmps188 rfl rfl fun w0 => ?_; refine vc_keep [0] rfl ?_; refine vc_sr ?_; refine vr 1 ?_; refine vco_k [0] ?_; refine vc_sr ?_; refine vr 1 ?_; refine vco_k [0, 3] ?_; refine vc_seq ?_; refine vc_sr ?_; refine vr 2 ?_; refine vco_sub rfl rfl ⟨by omega, by omega⟩ ?_; refine vr 1 ?_; refine vco_k [0, 3, 4] ?_; refine vc_block ?_; refine vc_loop1 (fun (k : Nat) => k) (fun (k : Nat) => put (put (put (emp) 0 (.val (.slice A l.length c))) 3 (.val (.int .i64 (val (l.drop k) : Nat)))) 4 (.val (.int .i64 ((k : Int) - 1)))) (fun (k : Nat) H' => H' = H ∧ k ≤ l.length) l.length (⟨rfl, Nat.le_refl _⟩) (by simp only [List.drop_length]; repeat (first | exact sub_emp _ | refine sub_put rfl ?_ | refine sub_put (slot_int (by first | omega | (simp [val]; done))) ?_)) ?_; rintro k H1 ⟨rfl, hk⟩; refine vc_seq ?_; refine vc_sr ?_; refine vr 2 ?_; refine vco_k [0, 3, 4, 9] ?_; refine vc_cond rfl (fun hb => ?_) (fun hb => ?_)
 ·
  have hb : 0 < k := by simp at hb; omega
  obtain ⟨x, hx⟩ : ∃ x, l[k - 1]? = some x := ⟨_, List.getElem?_eq_getElem (by omega)⟩; have hxB := hl.get hx
  have hdr : val (l.drop (k - 1)) = x + B * val (l.drop k) := by
   obtain ⟨hk', e⟩ := List.getElem?_eq_some_iff.1 hx; rw [List.drop_eq_getElem_cons hk', e, val_cons, show k - 1 + 1 = k by omega]
  have hvb := val_lt (hl.drop k); have hvb2 : B ^ (l.drop k).length ≤ B ^ 1 := Nat.pow_le_pow_right B_pos (by rw [List.length_drop]; omega)
  have hvb3 : val (l.drop k) < 1000000000 := by
   have := Nat.lt_of_lt_of_le hvb hvb2
   rwa [Nat.pow_one, B_eq] at this
  rw [B_eq] at hxB hdr; refine vc_skip ?_; refine vc_keep [0, 3, 4] rfl ?_; refine vc_seq ?_; refine vc_block ?_; refine vc_region rfl ?_; refine vr 1 ?_; refine vco_mul rfl rfl ⟨by omega, by omega⟩ ?_; refine vr 2 ?_; refine vco_at tbOk rfl rfl rfl rfl rfl (hr) (by rw [show ((k : Int) - 1).toNat = k - 1 by omega]; exact U_get hx) (by omega) (by omega) fun _ => ?_; refine vco_conv tbOk rfl rfl rfl ⟨by omega, by omega⟩ ?_; refine vco_add rfl rfl ⟨by omega, by omega⟩ ?_; refine vr 1 ?_; refine vco_end ?_; refine vc_keep [0, 3, 4] rfl ?_; refine vc_region rfl ?_; refine vr 1 ?_; refine vco_sub rfl rfl ⟨by omega, by omega⟩ ?_; refine vr 1 ?_; refine vco_end ?_; exact ⟨k - 1, by omega, (by rw [hdr]; repeat (first | exact sub_emp _ | refine sub_put rfl ?_ | refine sub_put (slot_int (by omega)) ?_)), rfl, by omega⟩
 ·
  have hb : k = 0 := by simp at hb; omega
  subst hb; refine vc_exit ?_; refine vc_keep [3] rfl ?_; refine vc_sr ?_; refine vr 2 ?_; refine vco_k [2] ?_; refine vc_ret ⟨.inr rfl, _, .tmp rfl (.nil), ?_⟩; exact ⟨rfl, rfl⟩
theorem scanonical_ok {H : Heap} {v : Value} {q : Rat} (hv : CanV H v q) :
  Fn Tryz.prog 130 #[v] H (RetM H q) := by
 obtain ⟨u, w, rfl, hu, hw⟩ := id hv
 have hv0 := hv
 unfold CanV at hv0
 obtain ⟨f, hf⟩ : ∃ f, f = decide (q.num < 0) := ⟨_, rfl⟩
 rw [← hf] at hv
 rw [← hf]
 obtain ⟨A, c, rfl, hc, hr⟩ := id hu
 obtain ⟨A', c', rfl, hc', hr'⟩ := id hw; refine fn_intro (args := [_]) Tryz.func130 rfl rfl Tryz.ntmps130 rfl rfl fun w0 => ?_; refine vc_keep [0] rfl ?_; refine vc_sr ?_; refine vco_hbox rfl rfl ?_; intro g hg; have hle := Heap.le_ins (whole [.bool f, .slice A (limbs q.num.natAbs).length c, .slice A' (limbs q.den).length c'] 31) hg; refine vco_alloc el90 rfl ?_; refine vco_k [1, 2] ?_; refine vc_seq ?_
 by_cases h2 : 2 < (limbs q.num.natAbs).length
 ·
  skip
  refine vc_sr ?_; refine vco_hfld tbOk rfl rfl rfl ?_; refine vco_hload tbOk rfl rfl rfl (cell_whole rfl) ?_; refine vr 1 ?_; refine vco_cmp true rfl rfl (cgt_t (by omega)) ?_; refine vr 6 ?_; refine vco_k [1, 2, 13] ?_; refine vc_cond_t rfl ?_; refine vc_sr ?_; refine vco_st tbOk rfl el90 rfl rfl ?_; obtain ⟨ti, hti, htz⟩ := sz90; refine vco_bstore (.inl ⟨rfl, rfl⟩) rfl rfl rfl hti htz rfl rfl rfl ?_; refine vco_k [2] ?_; obtain ⟨ri0, rhi0, rhz0⟩ := sz90; refine vc_ret ⟨.inr rfl, _, .agg rfl Tryz.underlying90 rhi0 rhz0 (.nil), ?_⟩; exact ⟨hle, _, rfl, 0, 0, some ⟨g, 0, none⟩, rfl, .inr ⟨_, f, _, _, rfl, hv.le hle, cell_whole0, cell_whole rfl, cell_whole rfl⟩⟩
 ·
  skip
  by_cases h3 : 2 < (limbs q.den).length
  ·
   skip
   refine vc_sr ?_; refine vco_hfld tbOk rfl rfl rfl ?_; refine vco_hload tbOk rfl rfl rfl (cell_whole rfl) ?_; refine vr 1 ?_; refine vco_cmp false rfl rfl (cgt_f (by omega)) ?_; refine vr 1 ?_; refine vco_hfld tbOk rfl rfl rfl ?_; refine vco_hload tbOk rfl rfl rfl (cell_whole rfl) ?_; refine vr 1 ?_; refine vco_cmp true rfl rfl (cgt_t (by omega)) ?_; refine vr 1 ?_; refine vco_k [1, 2, 13] ?_; refine vc_cond_t rfl ?_; refine vc_sr ?_; refine vco_st tbOk rfl el90 rfl rfl ?_; obtain ⟨ti, hti, htz⟩ := sz90; refine vco_bstore (.inl ⟨rfl, rfl⟩) rfl rfl rfl hti htz rfl rfl rfl ?_; refine vco_k [2] ?_; obtain ⟨ri0, rhi0, rhz0⟩ := sz90; refine vc_ret ⟨.inr rfl, _, .agg rfl Tryz.underlying90 rhi0 rhz0 (.nil), ?_⟩; exact ⟨hle, _, rfl, 0, 0, some ⟨g, 0, none⟩, rfl, .inr ⟨_, f, _, _, rfl, hv.le hle, cell_whole0, cell_whole rfl, cell_whole rfl⟩⟩
  ·
   skip
   refine vc_sr ?_; refine vco_hfld tbOk rfl rfl rfl ?_; refine vco_hload tbOk rfl rfl rfl (cell_whole rfl) ?_; refine vr 1 ?_; refine vco_cmp false rfl rfl (cgt_f (by omega)) ?_; refine vr 1 ?_; refine vco_hfld tbOk rfl rfl rfl ?_; refine vco_hload tbOk rfl rfl rfl (cell_whole rfl) ?_; refine vr 1 ?_; refine vco_cmp false rfl rfl (cgt_f (by omega)) ?_; refine vr 1 ?_; refine vco_k [1, 2, 13] ?_; refine vc_cond_f rfl ?_; refine vc_skip ?_; refine vc_keep [1, 2] rfl ?_; have hnb := limbs_len_le.1 (show (limbs q.num.natAbs).length ≤ 2 by omega); have hdb := limbs_len_le.1 (show (limbs q.den).length ≤ 2 by omega); rw [B_eq] at hnb hdb; refine vc_sd .drawB [0, 1, 3, 4, 2, 5, 6, 7, 8] follows (by kernel_rfl) ?_; refine vco_hfld tbOk rfl rfl rfl ?_; refine vco_hload tbOk rfl rfl rfl (cell_whole rfl) ?_; refine vco_hfld tbOk rfl rfl rfl ?_; refine vco_hload tbOk rfl rfl rfl (cell_whole rfl) ?_; refine vco_callM rfl rfl (sjoin_ok (hu.le hle) (nrm_limbs _).lt (by omega)) (fun _ _ h => h.le) ?_; rintro v1 H1 ⟨e1, rfl⟩; rw [e1, val_limbs]; refine vco_callM rfl rfl (sjoin_ok (hw.le hle) (nrm_limbs _).lt (by omega)) (fun _ _ h => h.le) ?_; rintro v1 H1 ⟨e1, rfl⟩; rw [e1, val_limbs]; refine vco_st tbOk rfl el90 rfl rfl ?_; refine vco_alloc el90 rfl ?_; obtain ⟨ti, hti, htz⟩ := sz90; refine vco_bstore (.inl ⟨rfl, rfl⟩) rfl rfl rfl hti htz rfl rfl rfl ?_; refine vco_k [1, 2, 3] ?_; refine vc_seq ?_; refine vc_sr ?_; refine vco_hfld tbOk rfl rfl rfl ?_
   refine vco_hload tbOk rfl rfl rfl (cell_whole0) ?_; refine vco_k [2, 3, 23] ?_; refine vc_cond rfl (fun hb => ?_) (fun hb => ?_)
   ·
    have hq : q.num < 0 := by rw [hf] at hb; simpa using hb
    refine vc_region rfl ?_; refine vr 2 ?_; refine vco_neg rfl ⟨by omega, by omega⟩ ?_; refine vr 1 ?_; obtain ⟨ti, hti, htz⟩ := sz2; refine vco_bstore (.inr rfl) rfl rfl rfl hti htz rfl rfl rfl ?_; refine vco_end ?_; refine vc_keep [2, 3] rfl ?_; refine vc_sr ?_; refine vr 1 ?_; obtain ⟨ti, hti, htz⟩ := sz90; refine vco_bstore (.inl ⟨rfl, rfl⟩) rfl rfl rfl hti htz rfl rfl rfl ?_; refine vco_k [2] ?_; obtain ⟨ri0, rhi0, rhz0⟩ := sz90; refine vc_ret ⟨.inr rfl, _, .agg rfl Tryz.underlying90 rhi0 rhz0 (.nil), ?_⟩; refine ⟨hle, _, rfl, -(q.num.natAbs : Int), (q.den : Int), none, rfl, .inl ⟨rfl, by omega, rfl, by omega, by omega, by omega⟩⟩
   ·
    have hq : ¬ q.num < 0 := by rw [hf] at hb; simpa using hb
    refine vc_skip ?_; refine vc_keep [2, 3] rfl ?_; refine vc_sr ?_; refine vr 1 ?_; obtain ⟨ti, hti, htz⟩ := sz90; refine vco_bstore (.inl ⟨rfl, rfl⟩) rfl rfl rfl hti htz rfl rfl rfl ?_; refine vco_k [2] ?_; obtain ⟨ri0, rhi0, rhz0⟩ := sz90; refine vc_ret ⟨.inr rfl, _, .agg rfl Tryz.underlying90 rhi0 rhz0 (.nil), ?_⟩; refine ⟨hle, _, rfl, (q.num.natAbs : Int), (q.den : Int), none, rfl, .inl ⟨rfl, by omega, rfl, by omega, by omega, by omega⟩⟩
theorem sload_ok {H : Heap} {v : Value} {q : Rat} {N : Nat} (hv : RawV H v q N) (hN : (N : Int) ≤ 1099511627776) :
  Fn Tryz.prog 121 #[v] H (RetM H q) := by
 obtain ⟨bf, bu, bw, bl1, bl2, rfl, _⟩ := id hv; refine fn_intro (args := [_]) Tryz.func121 rfl rfl Tryz.ntmps121 rfl rfl fun w0 => ?_; refine vc_keep [0] rfl ?_; refine vc_sr ?_; refine vco_box rfl rfl ?_; refine vco_alloc el90 rfl ?_; refine vco_k [1, 2] ?_; refine vc_sr ?_; refine vr 1 ?_; refine vco_call rfl rfl (Canonical_ok hv hN) ?_; rintro w1 G1 ⟨hlg1, hq1⟩; obtain ⟨u1, x1, rfl, hu1, hx1⟩ := id hq1; obtain ⟨Ahu1, chu1, rfl, hchu1, hrhu1⟩ := id hu1; obtain ⟨Ahx1, chx1, rfl, hchx1, hrhx1⟩ := id hx1; refine vco_call rfl rfl (scanonical_ok hq1) ?_; rintro w2 G2 ⟨hlg2, vs2, rfl, hq2⟩; obtain ⟨n2, d2, b2, rfl, _⟩ := id hq2; obtain ⟨ti, hti, htz⟩ := sz90; refine vco_bstore (.inl ⟨rfl, rfl⟩) rfl rfl rfl hti htz rfl rfl rfl ?_; refine vco_k [2] ?_; obtain ⟨ri0, rhi0, rhz0⟩ := sz90; refine vc_ret ⟨.inr rfl, _, .agg rfl Tryz.underlying90 rhi0 rhz0 (.nil), ?_⟩; exact ⟨hlg1.trans hlg2, _, rfl, hq2⟩
theorem srat_ok {H : Heap} {vs : List Value} {q : Rat} (hv : NumV H vs q) :
  Fn Tryz.prog 187 #[.agg vs.toArray] H (RetQ H q) := by
 obtain ⟨n, d, b, rfl, hb0⟩ := id hv
 have hsz := fun ad f u w (h : CanV H (.agg #[.bool f, u, w]) q) (_ : b = some ad) => h.raw; refine fn_intro (args := [_]) Tryz.func187 rfl rfl Tryz.ntmps187 rfl rfl fun w0 => ?_; refine vc_keep [0] rfl ?_; refine vc_sr ?_; refine vco_box rfl rfl ?_; refine vco_alloc el31 rfl ?_; refine vco_k [1, 2] ?_; refine vc_seq ?_
 rcases hb0 with ⟨rfl, hn, hd, h1, h2, h3⟩ | ⟨ad, f, u, w, rfl, hcan, hc0, hc1, hc2⟩
 ·
  skip
  refine vc_sr ?_; refine vr 2 ?_; refine vco_nen pt88 rfl rfl ?_; refine vco_k [1, 2, 5] ?_; refine vc_cond_f rfl ?_; refine vc_skip ?_; refine vc_keep [1, 2] rfl ?_; refine vc_sr ?_; refine vr 4 ?_; refine vco_call rfl rfl (Small_ok (by omega) (by omega) (by omega) (by omega)) ?_; rintro w1 G1 ⟨hlg1, hq1⟩; obtain ⟨u1, x1, rfl, hu1, hx1⟩ := id hq1; obtain ⟨Ahu1, chu1, rfl, hchu1, hrhu1⟩ := id hu1; obtain ⟨Ahx1, chx1, rfl, hchx1, hrhx1⟩ := id hx1; rw [hn, hd, rat_nd] at hq1; obtain ⟨ti, hti, htz⟩ := sz31; refine vco_bstore (.inl ⟨rfl, rfl⟩) rfl rfl rfl hti htz rfl rfl rfl ?_; refine vco_k [2] ?_; obtain ⟨ri0, rhi0, rhz0⟩ := sz31; refine vc_ret ⟨.inr rfl, _, .agg rfl Tryz.underlying31 rhi0 rhz0 (.nil), ?_⟩
  skip
  rw [hn, hd, rat_nd]; exact ⟨hlg1, hq1⟩
 ·
  obtain ⟨u1, w1, he1, hu1, hw1⟩ := id hcan
  obtain ⟨rfl, rfl, rfl⟩ : f = decide (q.num < 0) ∧ u = u1 ∧ w = w1 := by simpa using he1
  obtain ⟨Ahu1, chu1, rfl, hchu1, hrhu1⟩ := id hu1; obtain ⟨Ahw1, chw1, rfl, hchw1, hrhw1⟩ := id hw1; refine vc_sr ?_; refine vr 2 ?_; refine vco_nen pt88 rfl rfl ?_; refine vco_k [1, 2, 5] ?_; refine vc_cond_t rfl ?_; refine vc_sr ?_; refine vr 3 ?_; refine vco_hload_st (vs := [.bool _, _, _]) tbOk rfl rfl rfl (cells3 hc0 hc1 hc2) ?_; obtain ⟨ti, hti, htz⟩ := sz31; refine vco_bstore (.inl ⟨rfl, rfl⟩) rfl rfl rfl hti htz rfl rfl rfl ?_; refine vco_k [2] ?_; obtain ⟨ri0, rhi0, rhz0⟩ := sz31; refine vc_ret ⟨.inr rfl, _, .agg rfl Tryz.underlying31 rhi0 rhz0 (.nil), ?_⟩; exact ⟨.refl _, hcan⟩
theorem sout_ok {H : Heap} {vs : List Value} {q : Rat} (hv : NumV H vs q) (hN : (szQ q : Int) ≤ 1099511627776) :
  Fn Tryz.prog 61 #[.agg vs.toArray] H (RetQ H q) := by
 obtain ⟨n, d, b, rfl, hb0⟩ := id hv
 have hsz := fun ad f u w (h : CanV H (.agg #[.bool f, u, w]) q) (_ : b = some ad) => h.raw; refine fn_intro (args := [_]) Tryz.func61 rfl rfl Tryz.ntmps61 rfl rfl fun w0 => ?_; refine vc_keep [0] rfl ?_; refine vc_sr ?_; refine vco_box rfl rfl ?_; refine vco_alloc el31 rfl ?_; refine vco_k [1, 2] ?_; refine vc_seq ?_
 rcases hb0 with ⟨rfl, hn, hd, h1, h2, h3⟩ | ⟨ad, f, u, w, rfl, hcan, hc0, hc1, hc2⟩
 ·
  skip
  refine vc_sr ?_; refine vr 2 ?_; refine vco_nen pt88 rfl rfl ?_; refine vco_k [1, 2, 5] ?_; refine vc_cond_f rfl ?_; refine vc_skip ?_; refine vc_keep [1, 2] rfl ?_; refine vc_sr ?_; refine vr 4 ?_; refine vco_call rfl rfl (Small_ok (by omega) (by omega) (by omega) (by omega)) ?_; rintro w1 G1 ⟨hlg1, hq1⟩; obtain ⟨u1, x1, rfl, hu1, hx1⟩ := id hq1; obtain ⟨Ahu1, chu1, rfl, hchu1, hrhu1⟩ := id hu1; obtain ⟨Ahx1, chx1, rfl, hchx1, hrhx1⟩ := id hx1; rw [hn, hd, rat_nd] at hq1; obtain ⟨ti, hti, htz⟩ := sz31; refine vco_bstore (.inl ⟨rfl, rfl⟩) rfl rfl rfl hti htz rfl rfl rfl ?_; refine vco_k [2] ?_; obtain ⟨ri0, rhi0, rhz0⟩ := sz31; refine vc_ret ⟨.inr rfl, _, .agg rfl Tryz.underlying31 rhi0 rhz0 (.nil), ?_⟩
  skip
  rw [hn, hd, rat_nd]; exact ⟨hlg1, hq1⟩
 ·
  obtain ⟨u1, w1, he1, hu1, hw1⟩ := id hcan
  obtain ⟨rfl, rfl, rfl⟩ : f = decide (q.num < 0) ∧ u = u1 ∧ w = w1 := by simpa using he1
  obtain ⟨Ahu1, chu1, rfl, hchu1, hrhu1⟩ := id hu1; obtain ⟨Ahw1, chw1, rfl, hchw1, hrhw1⟩ := id hw1; refine vc_sr ?_; refine vr 2 ?_; refine vco_nen pt88 rfl rfl ?_; refine vco_k [1, 2, 5] ?_; refine vc_cond_t rfl ?_; refine vc_sr ?_; refine vr 3 ?_; refine vco_hload_st (vs := [.bool _, _, _]) tbOk rfl rfl rfl (cells3 hc0 hc1 hc2) ?_; refine vco_call rfl rfl (Canonical_ok hcan.raw hN) ?_; rintro w1 G1 ⟨hlg1, hq1⟩; obtain ⟨u1, x1, rfl, hu1, hx1⟩ := id hq1; obtain ⟨Ahu1, chu1, rfl, hchu1, hrhu1⟩ := id hu1; obtain ⟨Ahx1, chx1, rfl, hchx1, hrhx1⟩ := id hx1; obtain ⟨ti, hti, htz⟩ := sz31; refine vco_bstore (.inl ⟨rfl, rfl⟩) rfl rfl rfl hti htz rfl rfl rfl ?_; refine vco_k [2] ?_; obtain ⟨ri0, rhi0, rhz0⟩ := sz31; refine vc_ret ⟨.inr rfl, _, .agg rfl Tryz.underlying31 rhi0 rhz0 (.nil), ?_⟩; exact ⟨hlg1, hq1⟩
theorem sfits_ok {H : Heap} {n d : Int} {b : Option Addr} :
  Fn Tryz.prog 184 #[N3 n d b] H (fun v H' => H' = H ∧ ∃ t, v = .bool t ∧ (t = true ↔ b = none ∧ -2147483647 ≤ n ∧ n ≤ 2147483647 ∧ d ≤ 2147483647)) := by
 refine fn_intro (args := [_]) Tryz.func184 rfl rfl Tryz.ntmps184 rfl rfl fun w0 => ?_; refine vc_keep [0] rfl ?_; refine vc_sr ?_; refine vco_box rfl rfl ?_; refine vr 1 ?_; refine vco_k [1] ?_
 rcases b with _ | ad
 rotate_left
 ·
  skip
  refine vc_sr ?_; refine vr 2 ?_; refine vco_eqn pt88 rfl rfl ?_; refine vr 16 ?_; refine vco_k [2] ?_; refine vc_ret ⟨.inr rfl, _, .tmp rfl (.nil), ?_⟩; exact ⟨rfl, _, rfl, by constructor <;> intro h <;> first | (cases h; done) | exact ⟨rfl, h1, h2, h3⟩ | (obtain ⟨h4, h5, h6, h7⟩ := h; first | (cases h4; done) | omega) | rfl⟩
 ·
  skip
  by_cases h1 : -2147483647 ≤ n
  ·
   skip
   by_cases h2 : n ≤ 2147483647
   ·
    skip
    by_cases h3 : d ≤ 2147483647
    ·
     skip
     refine vc_sr ?_; refine vr 2 ?_; refine vco_eqn pt88 rfl rfl ?_; refine vr 3 ?_; refine vco_cmp true rfl rfl (cle_t h1) ?_; refine vr 4 ?_; refine vco_cmp true rfl rfl (cle_t h2) ?_; refine vr 4 ?_; refine vco_cmp true rfl rfl (cle_t h3) ?_; refine vr 2 ?_; refine vco_k [2] ?_; refine vc_ret ⟨.inr rfl, _, .tmp rfl (.nil), ?_⟩; exact ⟨rfl, _, rfl, by constructor <;> intro h <;> first | (cases h; done) | exact ⟨rfl, h1, h2, h3⟩ | (obtain ⟨h4, h5, h6, h7⟩ := h; first | (cases h4; done) | omega) | rfl⟩
    ·
     skip
     refine vc_sr ?_; refine vr 2 ?_; refine vco_eqn pt88 rfl rfl ?_; refine vr 3 ?_; refine vco_cmp true rfl rfl (cle_t h1) ?_; refine vr 4 ?_; refine vco_cmp true rfl rfl (cle_t h2) ?_; refine vr 4 ?_; refine vco_cmp false rfl rfl (cle_f (by omega)) ?_; refine vr 2 ?_; refine vco_k [2] ?_; refine vc_ret ⟨.inr rfl, _, .tmp rfl (.nil), ?_⟩; exact ⟨rfl, _, rfl, by constructor <;> intro h <;> first | (cases h; done) | exact ⟨rfl, h1, h2, h3⟩ | (obtain ⟨h4, h5, h6, h7⟩ := h; first | (cases h4; done) | omega) | rfl⟩
   ·
    skip
    refine vc_sr ?_; refine vr 2 ?_; refine vco_eqn pt88 rfl rfl ?_; refine vr 3 ?_; refine vco_cmp true rfl rfl (cle_t h1) ?_; refine vr 4 ?_; refine vco_cmp false rfl rfl (cle_f (by omega)) ?_; refine vr 7 ?_; refine vco_k [2] ?_; refine vc_ret ⟨.inr rfl, _, .tmp rfl (.nil), ?_⟩; exact ⟨rfl, _, rfl, by constructor <;> intro h <;> first | (cases h; done) | exact ⟨rfl, h1, h2, h3⟩ | (obtain ⟨h4, h5, h6, h7⟩ := h; first | (cases h4; done) | omega) | rfl⟩
  ·
   skip
   refine vc_sr ?_; refine vr 2 ?_; refine vco_eqn pt88 rfl rfl ?_; refine vr 3 ?_; refine vco_cmp false rfl rfl (cle_f (by omega)) ?_; refine vr 12 ?_; refine vco_k [2] ?_; refine vc_ret ⟨.inr rfl, _, .tmp rfl (.nil), ?_⟩; exact ⟨rfl, _, rfl, by constructor <;> intro h <;> first | (cases h; done) | exact ⟨rfl, h1, h2, h3⟩ | (obtain ⟨h4, h5, h6, h7⟩ := h; first | (cases h4; done) | omega) | rfl⟩
/-- Can be calculated with in 64 bits. -/
def fitsB (n d : Int) (b : Option Addr) : Bool := b.isNone && (decide (-2147483647 ≤ n) && (decide (n ≤ 2147483647) && decide (d ≤ 2147483647)))
theorem fitsB_iff {n d : Int} {b : Option Addr} : fitsB n d b = true ↔ b = none ∧ -2147483647 ≤ n ∧ n ≤ 2147483647 ∧ d ≤ 2147483647 := by
  simp [fitsB]
theorem sfits_e {H : Heap} {n d : Int} {b : Option Addr} : Fn Tryz.prog 184 #[N3 n d b] H (RetE H (.bool (fitsB n d b))) :=
  sfits_ok.mono fun v H' ⟨h1, t, h2, h3⟩ => ⟨h1, by rw [h2]; congr 1; rw [Bool.eq_iff_iff, h3, fitsB_iff]⟩
theorem sratio_ok {H : Heap} {n d : Int} (h1 : -9223372036854775807 ≤ n) (h2 : n ≤ 9223372036854775807) (h3 : 0 < d) (h4 : d ≤ 9223372036854775807) :
  Fn Tryz.prog 185 #[.int .i64 n, .int .i64 d] H (RetM H ((n : Rat) / (d : Rat))) := by
 have hlow := lowest (n := n) h3; refine fn_intro (args := [_, _]) Tryz.func185 rfl rfl Tryz.ntmps185 rfl rfl fun w0 => ?_; refine vc_keep [0, 1] rfl ?_; refine vc_sr ?_; refine vco_alloc el90 rfl ?_; refine vco_k [0, 1, 4] ?_; refine vc_sr ?_; refine vr 2 ?_; refine vco_neg rfl ⟨by omega, by omega⟩ ?_; refine vco_max rfl rfl ?_; rw [show (if -n > n then -n else n) = ((n.natAbs : Nat) : Int) by split <;> omega]; refine vr 3 ?_; refine vco_k [0, 1, 4, 5, 6] ?_; refine vc_seq ?_; refine vc_block ?_; refine vc_loop2 (fun (a : Nat) (b : Nat) => b) (fun (a : Nat) (b : Nat) => put (put (put (put (put (emp) 0 (.val (.int .i64 n))) 1 (.val (.int .i64 d))) 4 (.box [.int .i64 0, .int .i64 0, .pointer none])) 5 (.val (.int .i64 (a : Int)))) 6 (.val (.int .i64 (b : Int)))) (fun (a : Nat) (b : Nat) H' => H' = H ∧ Nat.gcd a b = Nat.gcd n.natAbs d.natAbs ∧ a ≤ 9223372036854775807 ∧ b ≤ 9223372036854775807) n.natAbs d.natAbs (⟨rfl, rfl, by omega, by omega⟩) sub_auto ?_; rintro a b H1 ⟨rfl, hg, ha, hbb⟩; refine vc_seq ?_; refine vc_sr ?_; refine vr 2 ?_; refine vco_k [0, 1, 4, 5, 6, 13] ?_; refine vc_cond rfl (fun hb => ?_) (fun hb => ?_)
 ·
  have hb : 0 < b := by simp at hb; omega
  refine vc_skip ?_; refine vc_keep [0, 1, 4, 5, 6] rfl ?_; refine vc_block ?_; refine vc_draw .drawB [0, 1, 2, 3, 4, 5] follows (by kernel_rfl) ?_; refine vr 3 ?_; refine vco_rem rfl rfl (by omega) (by omega) ?_; refine vr 2 ?_; refine vco_end ?_; exact ⟨b, a % b, Nat.mod_lt a hb, sub_auto, rfl, by rw [← hg, Nat.gcd_comm b, ← Nat.gcd_rec, Nat.gcd_comm], hbb, by have := Nat.mod_lt a hb; omega⟩
 ·
  have hb : b = 0 := by simp at hb; omega
  subst hb; rw [Nat.gcd_zero_right] at hg
  have ha0 : 0 < a := by rw [hg]; exact Nat.gcd_pos_of_pos_right _ (by omega)
  have hf1 := tdiv_fit (g := a) h1 h2; have hf2 : (d / (a : Int)) ≤ d ∧ 0 ≤ d / (a : Int) := ⟨Int.ediv_le_self _ (by omega), Int.ediv_nonneg (by omega) (by omega)⟩; refine vc_exit ?_; refine vc_keep [0, 1, 4, 5] rfl ?_; refine vc_sd .drawB [0, 1, 2, 3, 4, 5, 6, 7] follows (by kernel_rfl) ?_; refine vr 2 ?_; refine vco_quoT rfl rfl (by omega) ⟨by omega, by omega⟩ ?_; refine vr 2 ?_; refine vco_quo rfl rfl (by omega) (by omega) ⟨by omega, by omega⟩ ?_; refine vco_st tbOk rfl el90 rfl rfl ?_; obtain ⟨ti, hti, htz⟩ := sz90; refine vco_bstore (.inl ⟨rfl, rfl⟩) rfl rfl rfl hti htz rfl rfl rfl ?_; refine vco_k [4] ?_; obtain ⟨ri0, rhi0, rhz0⟩ := sz90; refine vc_ret ⟨.inr rfl, _, .agg rfl Tryz.underlying90 rhi0 rhz0 (.nil), ?_⟩; rw [← hg] at hlow; refine ⟨.refl _, _, rfl, n.tdiv a, d / (a : Int), none, rfl, .inl ⟨rfl, hlow.1.symm, ?_, hf1.1, hf1.2, by omega⟩⟩; rw [hlow.2]
  have e : d = (d.natAbs : Int) := by omega
  rw [e, Int.natAbs_natCast]; rfl
theorem ssign_ok {H : Heap} {vs : List Value} {q : Rat} (hv : NumV H vs q) (hN : (szQ q : Int) ≤ 1099511627776) :
  Fn Tryz.prog 53 #[.agg vs.toArray] H (fun v H' => Heap.le H H' ∧ v = .int .i64 (sgnQ q)) := by
 obtain ⟨n, d, b, rfl, hb0⟩ := id hv
 have hsz := fun ad f u w (h : CanV H (.agg #[.bool f, u, w]) q) (_ : b = some ad) => h.raw
 have hs := sgn_num q; refine fn_intro (args := [_]) Tryz.func53 rfl rfl Tryz.ntmps53 rfl rfl fun w0 => ?_; refine vc_keep [0] rfl ?_; refine vc_sr ?_; refine vco_box rfl rfl ?_; refine vr 1 ?_; refine vco_k [1] ?_; refine vc_seq ?_; refine vc_block ?_
 rcases hb0 with ⟨rfl, hn, hd, h1, h2, h3⟩ | ⟨ad, f, u, w, rfl, hcan, hc0, hc1, hc2⟩
 ·
  skip
  refine vc_sr ?_; refine vr 2 ?_; refine vco_nen pt88 rfl rfl ?_; refine vr 1 ?_; refine vco_k [1, 3] ?_; refine vc_cond_f rfl ?_; refine vc_sr ?_; refine vr 4 ?_; refine vco_k [1, 12] ?_; refine vc_cond rfl (fun hb => ?_) (fun hb => ?_)
  ·
   have hb : n < 0 := by simpa using hb
   rw [if_neg (by omega), decide_eq_true (by omega)] at hs; refine vc_sr ?_; refine vr 1 ?_; refine vco_k [2] ?_; refine vc_ret ⟨.inr rfl, _, .tmp rfl (.nil), ?_⟩; exact ⟨.refl _, by rw [hs]; rfl⟩
  ·
   have hb : 0 ≤ n := by simpa using hb
   refine vc_sr ?_; refine vr 4 ?_; refine vco_k [16] ?_; refine vc_cond rfl (fun hb => ?_) (fun hb => ?_)
   ·
    have hb : 0 < n := by simpa using hb
    rw [if_neg (by omega), decide_eq_false (by omega)] at hs; refine vc_sr ?_; refine vr 1 ?_; refine vco_k [2] ?_; refine vc_ret ⟨.inr rfl, _, .tmp rfl (.nil), ?_⟩; exact ⟨.refl _, by rw [hs]; rfl⟩
   ·
    have hb2 : n ≤ 0 := by simpa using hb
    rw [if_pos (by omega)] at hs; refine vc_skip ?_; refine vc_keep [] rfl ?_; refine vc_sr ?_; refine vr 1 ?_; refine vco_k [2] ?_; refine vc_ret ⟨.inr rfl, _, .tmp rfl (.nil), ?_⟩; exact ⟨.refl _, by rw [hs]; rfl⟩
 ·
  obtain ⟨u1, w1, he1, hu1, hw1⟩ := id hcan
  obtain ⟨rfl, rfl, rfl⟩ : f = decide (q.num < 0) ∧ u = u1 ∧ w = w1 := by simpa using he1
  obtain ⟨Ahu1, chu1, rfl, hchu1, hrhu1⟩ := id hu1; obtain ⟨Ahw1, chw1, rfl, hchw1, hrhw1⟩ := id hw1; refine vc_sr ?_; refine vr 2 ?_; refine vco_nen pt88 rfl rfl ?_; refine vr 1 ?_; refine vco_k [1, 3] ?_; refine vc_cond_t rfl ?_; refine vc_sr ?_; refine vr 3 ?_; refine vco_hload_st (vs := [.bool _, _, _]) tbOk rfl rfl rfl (cells3 hc0 hc1 hc2) ?_; refine vco_call rfl rfl (Sign_ok hcan.raw hN) ?_; rintro v1 H1 ⟨hl1, rfl⟩; refine vr 1 ?_; refine vco_k [2] ?_; refine vc_ret ⟨.inr rfl, _, .tmp rfl (.nil), ?_⟩; exact ⟨hl1, rfl⟩
theorem sneg_ok {H : Heap} {vs : List Value} {q : Rat} (hv : NumV H vs q) (hN : (szQ q : Int) ≤ 1099511627776) :
  Fn Tryz.prog 58 #[.agg vs.toArray] H (RetM H (-q)) := by
 obtain ⟨n, d, b, rfl, hb0⟩ := id hv
 have hsz := fun ad f u w (h : CanV H (.agg #[.bool f, u, w]) q) (_ : b = some ad) => h.raw; refine fn_intro (args := [_]) Tryz.func58 rfl rfl Tryz.ntmps58 rfl rfl fun w0 => ?_; refine vc_keep [0] rfl ?_; refine vc_sr ?_; refine vco_box rfl rfl ?_; refine vco_alloc el90 rfl ?_; refine vco_k [1, 2] ?_; refine vc_seq ?_
 rcases hb0 with ⟨rfl, hn, hd, h1, h2, h3⟩ | ⟨ad, f, u, w, rfl, hcan, hc0, hc1, hc2⟩
 ·
  skip
  refine vc_sr ?_; refine vr 2 ?_; refine vco_nen pt88 rfl rfl ?_; refine vco_k [1, 2, 5] ?_; refine vc_cond_f rfl ?_; refine vc_skip ?_; refine vc_keep [1, 2] rfl ?_; refine vc_sr ?_; refine vr 2 ?_; refine vco_neg rfl ⟨by omega, by omega⟩ ?_; refine vr 2 ?_; refine vco_st tbOk rfl el90 rfl rfl ?_; obtain ⟨ti, hti, htz⟩ := sz90; refine vco_bstore (.inl ⟨rfl, rfl⟩) rfl rfl rfl hti htz rfl rfl rfl ?_; refine vco_k [2] ?_; obtain ⟨ri0, rhi0, rhz0⟩ := sz90; refine vc_ret ⟨.inr rfl, _, .agg rfl Tryz.underlying90 rhi0 rhz0 (.nil), ?_⟩; exact ⟨.refl _, _, rfl, -n, d, none, rfl, .inl ⟨rfl, by rw [Rat.neg_num, hn], by rw [Rat.neg_den, hd], by omega, by omega, by omega⟩⟩
 ·
  obtain ⟨u1, w1, he1, hu1, hw1⟩ := id hcan
  obtain ⟨rfl, rfl, rfl⟩ : f = decide (q.num < 0) ∧ u = u1 ∧ w = w1 := by simpa using he1
  obtain ⟨Ahu1, chu1, rfl, hchu1, hrhu1⟩ := id hu1; obtain ⟨Ahw1, chw1, rfl, hchw1, hrhw1⟩ := id hw1; refine vc_sr ?_; refine vr 2 ?_; refine vco_nen pt88 rfl rfl ?_; refine vco_k [1, 2, 5] ?_; refine vc_cond_t rfl ?_; refine vc_sr ?_; refine vr 3 ?_; refine vco_hload_st (vs := [.bool _, _, _]) tbOk rfl rfl rfl (cells3 hc0 hc1 hc2) ?_; refine vco_call rfl rfl (Neg_ok hcan.raw hN) ?_; rintro w1 G1 ⟨hlg1, hq1⟩; obtain ⟨u1, x1, rfl, hu1, hx1⟩ := id hq1; obtain ⟨Ahu1, chu1, rfl, hchu1, hrhu1⟩ := id hu1; obtain ⟨Ahx1, chx1, rfl, hchx1, hrhx1⟩ := id hx1; refine vco_call rfl rfl (scanonical_ok hq1) ?_; rintro w2 G2 ⟨hlg2, vs2, rfl, hq2⟩; obtain ⟨n2, d2, b2, rfl, _⟩ := id hq2; obtain ⟨ti, hti, htz⟩ := sz90; refine vco_bstore (.inl ⟨rfl, rfl⟩) rfl rfl rfl hti htz rfl rfl rfl ?_; refine vco_k [2] ?_; obtain ⟨ri0, rhi0, rhz0⟩ := sz90; refine vc_ret ⟨.inr rfl, _, .agg rfl Tryz.underlying90 rhi0 rhz0 (.nil), ?_⟩; exact ⟨hlg1.trans hlg2, _, rfl, hq2⟩
end Go.Eng
/- Plain linear algebra over Rat: finite sums, tableaux, pivots, and Bland's rule ends. No program in sight. -/
namespace Lp
/-- The sum of f over 0 .. n-1. -/
def sumN : Nat → (Nat → Rat) → Rat
  | 0, _ => 0
  | n + 1, f => sumN n f + f n
theorem sumN_succ (n : Nat) (f : Nat → Rat) : sumN (n + 1) f = sumN n f + f n := rfl
theorem sumN_zero (f : Nat → Rat) : sumN 0 f = 0 := rfl
theorem sumN_congr {n : Nat} {f g : Nat → Rat} (h : ∀ i, i < n → f i = g i) : sumN n f = sumN n g := by
  induction n with
  | zero => rfl
  | succ n ih =>
    rw [sumN_succ, sumN_succ, ih (fun i hi => h i (by omega)), h n (by omega)]
theorem sumN_add (n : Nat) (f g : Nat → Rat) : sumN n (fun i => f i + g i) = sumN n f + sumN n g := by
  induction n with
  | zero => simp only [sumN]; grind
  | succ n ih => simp only [sumN_succ, ih]; grind
theorem sumN_sub (n : Nat) (f g : Nat → Rat) : sumN n (fun i => f i - g i) = sumN n f - sumN n g := by
  induction n with
  | zero => simp only [sumN]; grind
  | succ n ih => simp only [sumN_succ, ih]; grind
theorem sumN_mul (n : Nat) (k : Rat) (f : Nat → Rat) : sumN n (fun i => k * f i) = k * sumN n f := by
  induction n with
  | zero => simp [sumN]
  | succ n ih => simp only [sumN_succ, ih]; grind
theorem sumN_mul' (n : Nat) (k : Rat) (f : Nat → Rat) : sumN n (fun i => f i * k) = sumN n f * k := by
  induction n with
  | zero => simp [sumN]
  | succ n ih => simp only [sumN_succ, ih]; grind
theorem sumN_neg (n : Nat) (f : Nat → Rat) : sumN n (fun i => - f i) = - sumN n f := by
  induction n with
  | zero => simp only [sumN]; grind
  | succ n ih => simp only [sumN_succ, ih]; grind
theorem sumN_const0 (n : Nat) : sumN n (fun _ => 0) = 0 := by
  induction n with
  | zero => rfl
  | succ n ih => rw [sumN_succ, ih]; grind
theorem sumN_eq0 {n : Nat} {f : Nat → Rat} (h : ∀ i, i < n → f i = 0) : sumN n f = 0 := by
  rw [sumN_congr h, sumN_const0]
theorem sumN_single {n k : Nat} (hk : k < n) (f : Nat → Rat) (h : ∀ i, i < n → i ≠ k → f i = 0) : sumN n f = f k := by
  induction n with
  | zero => omega
  | succ n ih =>
    rw [sumN_succ]
    by_cases e : k = n
    · subst e
      rw [sumN_eq0 (fun i hi => h i (by omega) (by omega))]; grind
    · rw [ih (by omega) (fun i hi hne => h i (by omega) hne), h n (by omega) (by omega)]; grind
theorem sumN_comm (m n : Nat) (f : Nat → Nat → Rat) :
    sumN m (fun i => sumN n (fun j => f i j)) = sumN n (fun j => sumN m (fun i => f i j)) := by
  induction m with
  | zero => simp [sumN, sumN_const0]
  | succ m ih => simp only [sumN_succ, ih, sumN_add]
theorem sumN_nonneg {n : Nat} {f : Nat → Rat} (h : ∀ i, i < n → 0 ≤ f i) : 0 ≤ sumN n f := by
  induction n with
  | zero => exact Rat.le_refl
  | succ n ih =>
    rw [sumN_succ]
    have h1 := ih (fun i hi => h i (by omega))
    have h2 := h n (by omega)
    grind
theorem sumN_le {n : Nat} {f g : Nat → Rat} (h : ∀ i, i < n → f i ≤ g i) : sumN n f ≤ sumN n g := by
  induction n with
  | zero => exact Rat.le_refl
  | succ n ih =>
    rw [sumN_succ, sumN_succ]
    have h1 := ih (fun i hi => h i (by omega))
    have h2 := h n (by omega)
    grind
theorem sumN_pos_ex {n : Nat} {f : Nat → Rat} (h : 0 < sumN n f) : ∃ i, i < n ∧ 0 < f i := by
  false_or_by_contra
  rename_i hc
  have : sumN n f ≤ sumN n (fun _ => 0) := sumN_le (fun i hi => by
    have : ¬ 0 < f i := fun hp => hc ⟨i, hi, hp⟩
    grind)
  rw [sumN_const0] at this
  grind
theorem sumN_ite {n k : Nat} (hk : k < n) (f : Nat → Rat) : sumN n (fun i => if i = k then f i else 0) = f k := by
  rw [sumN_single hk _ (fun i _ hne => if_neg hne), if_pos rfl]
/-- A tableau: m rows, n columns; column n holds the right sides, c n is minus the value. -/
structure Tab where
  m : Nat
  n : Nat
  A : Nat → Nat → Rat
  c : Nat → Rat
  B : Nat → Nat
namespace Tab
/-- Vectors over the columns 0 .. n (a point has -1 at n, a direction 0). -/
def Sol (T : Tab) (x : Nat → Rat) : Prop := ∀ i, i < T.m → sumN (T.n + 1) (fun j => T.A i j * x j) = 0
def cost (T : Tab) (x : Nat → Rat) : Rat := sumN (T.n + 1) (fun j => T.c j * x j)
structure WF (T : Tab) : Prop where
  lt : ∀ i, i < T.m → T.B i < T.n
  unit : ∀ i k, i < T.m → k < T.m → T.A k (T.B i) = if k = i then 1 else 0
  zero : ∀ i, i < T.m → T.c (T.B i) = 0
theorem WF.inj {T : Tab} (h : T.WF) {i k : Nat} (hi : i < T.m) (hk : k < T.m) (e : T.B i = T.B k) : i = k := by
  have h1 := h.unit i k hi hk
  have h2 := h.unit k k hk hk
  rw [e, h2] at h1
  simp at h1
  exact h1.symm
def Feas (T : Tab) : Prop := ∀ i, i < T.m → 0 ≤ T.A i T.n
/-- The direction in which column s grows. -/
def dir (T : Tab) (s : Nat) (j : Nat) : Rat := (if j = s then 1 else 0) - sumN T.m (fun i => if T.B i = j then T.A i s else 0)
theorem dot_dir (T : Tab) (hB : ∀ i, i < T.m → T.B i < T.n) (s : Nat) (hs : s ≤ T.n) (f : Nat → Rat) :
    sumN (T.n + 1) (fun j => f j * T.dir s j) = f s - sumN T.m (fun i => f (T.B i) * T.A i s) := by
  have e1 : ∀ j, f j * T.dir s j = (if j = s then f j else 0) - sumN T.m (fun i => if j = T.B i then f j * T.A i s else 0) := by
    intro j
    unfold dir
    have : sumN T.m (fun i => if j = T.B i then f j * T.A i s else 0) = f j * sumN T.m (fun i => if T.B i = j then T.A i s else 0) := by
      rw [← sumN_mul]
      refine sumN_congr fun i _ => ?_
      by_cases e : T.B i = j
      · rw [if_pos e, if_pos e.symm]
      · rw [if_neg e, if_neg (fun h => e h.symm)]; grind
    rw [this]
    by_cases e : j = s
    · rw [if_pos e, if_pos e]; grind
    · rw [if_neg e, if_neg e]; grind
  rw [sumN_congr (fun j _ => e1 j), sumN_sub, sumN_ite (by omega)]
  congr 1
  rw [sumN_comm]
  refine sumN_congr fun i hi => ?_
  have := hB i hi
  exact sumN_ite (f := fun j => f j * T.A i s) (by omega)
theorem sol_dir {T : Tab} (h : T.WF) (s : Nat) (hs : s ≤ T.n) : T.Sol (T.dir s) := by
  intro k hk
  rw [dot_dir T h.lt s hs]
  rw [sumN_single hk]
  · rw [h.unit k k hk hk, if_pos rfl]; grind
  · intro i hi hne
    rw [h.unit i k hi hk, if_neg (fun e => hne e.symm)]; grind
theorem cost_dir {T : Tab} (h : T.WF) (s : Nat) (hs : s ≤ T.n) : T.cost (T.dir s) = T.c s := by
  unfold cost
  rw [dot_dir T h.lt s hs, sumN_eq0]
  · grind
  · intro i hi; rw [h.zero i hi]; grind
/-- Column s becomes the unit column of row r. -/
def pivot (T : Tab) (r s : Nat) : Tab :=
  { m := T.m, n := T.n
    A := fun i j => if i = r then T.A r j / T.A r s else T.A i j - T.A i s * (T.A r j / T.A r s)
    c := fun j => T.c j - T.c s * (T.A r j / T.A r s)
    B := fun i => if i = r then s else T.B i }
theorem pivot_wf {T : Tab} (h : T.WF) {r s : Nat} (hr : r < T.m) (hs : s < T.n) (hp : T.A r s ≠ 0) : (T.pivot r s).WF := by
  refine ⟨fun i hi => ?_, fun i k hi hk => ?_, fun i hi => ?_⟩
  · simp only [pivot] at hi ⊢
    split
    · exact hs
    · exact h.lt i hi
  · simp only [pivot] at hi hk ⊢
    by_cases ei : i = r
    · simp only [if_pos ei]
      by_cases ek : k = r
      · simp only [ek, ei, if_true]; grind
      · simp only [if_neg ek]
        rw [if_neg (by omega)]; grind
    · simp only [if_neg ei]
      have hu := h.unit i r hi hr
      rw [if_neg (fun e => ei e.symm)] at hu
      rw [hu]
      by_cases ek : k = r
      · simp only [if_pos ek]
        rw [if_neg (by omega)]; grind
      · simp only [if_neg ek]
        rw [h.unit i k hi hk]; grind
  · simp only [pivot] at hi ⊢
    by_cases ei : i = r
    · simp only [if_pos ei]; grind
    · simp only [if_neg ei]
      have hu := h.unit i r hi hr
      rw [if_neg (fun e => ei e.symm)] at hu
      rw [hu, h.zero i hi]; grind
theorem row_pivot (T : Tab) (r s i : Nat) (x : Nat → Rat) :
    sumN (T.n + 1) (fun j => (T.pivot r s).A i j * x j) =
      if i = r then sumN (T.n + 1) (fun j => T.A r j * x j) / T.A r s
      else sumN (T.n + 1) (fun j => T.A i j * x j) - T.A i s * (sumN (T.n + 1) (fun j => T.A r j * x j) / T.A r s) := by
  simp only [pivot]
  by_cases e : i = r
  · simp only [if_pos e]
    rw [Rat.div_def, ← sumN_mul']
    exact sumN_congr fun j _ => by grind
  · simp only [if_neg e]
    rw [Rat.div_def, ← sumN_mul', ← sumN_mul, ← sumN_sub]
    exact sumN_congr fun j _ => by grind
theorem sol_pivot {T : Tab} {r s : Nat} (hr : r < T.m) (hp : T.A r s ≠ 0) (x : Nat → Rat) : (T.pivot r s).Sol x ↔ T.Sol x := by
  constructor
  · intro h i hi
    have hr' := h r hr
    have hi' := h i hi
    have en : (T.pivot r s).n = T.n := rfl
    rw [en, row_pivot] at hr' hi'
    rw [if_pos rfl] at hr'
    have h0 : sumN (T.n + 1) (fun j => T.A r j * x j) = 0 := by grind
    by_cases e : i = r
    · subst e; exact h0
    · rw [if_neg e] at hi'; grind
  · intro h i hi
    have en : (T.pivot r s).n = T.n := rfl
    have em : (T.pivot r s).m = T.m := rfl
    rw [em] at hi
    rw [en, row_pivot, h r hr, h i hi]
    split <;> grind
theorem cost_pivot {T : Tab} {r s : Nat} (hr : r < T.m) (x : Nat → Rat) (hx : T.Sol x) : (T.pivot r s).cost x = T.cost x := by
  have e : (T.pivot r s).cost x = T.cost x - T.c s * (sumN (T.n + 1) (fun j => T.A r j * x j) / T.A r s) := by
    unfold cost
    simp only [pivot]
    rw [Rat.div_def, ← sumN_mul', ← sumN_mul, ← sumN_sub]
    exact sumN_congr fun j _ => by grind
  rw [e, hx r hr]; grind
/-- Bland's rule: column s enters, row r leaves; u is the number of columns that may enter. -/
structure Bland (T : Tab) (u r s : Nat) : Prop where
  su : s < u
  neg : T.c s < 0
  first : ∀ j, j < s → 0 ≤ T.c j
  rm : r < T.m
  pos : 0 < T.A r s
  least : ∀ i, i < T.m → 0 < T.A i s → T.A r T.n / T.A r s < T.A i T.n / T.A i s ∨ (T.A r T.n / T.A r s = T.A i T.n / T.A i s ∧ T.B r ≤ T.B i)
theorem div_nonneg {a b : Rat} (ha : 0 ≤ a) (hb : 0 < b) : 0 ≤ a / b := by
  rw [Rat.div_def]
  have : 0 < b⁻¹ := Rat.inv_pos.2 hb
  exact Rat.mul_nonneg ha (Rat.le_of_lt this)
theorem pivot_feas {T : Tab} {u r s : Nat} (hf : T.Feas) (hb : T.Bland u r s) : (T.pivot r s).Feas := by
  intro i hi
  have hi' : i < T.m := hi
  have hr := hf r hb.rm
  have hi2 := hf i hi'
  have hq : 0 ≤ T.A r T.n / T.A r s := div_nonneg hr hb.pos
  show 0 ≤ (if i = r then T.A r T.n / T.A r s else T.A i T.n - T.A i s * (T.A r T.n / T.A r s))
  split
  · exact hq
  · by_cases hp : 0 < T.A i s
    · have hl : T.A r T.n / T.A r s ≤ T.A i T.n / T.A i s := by
        rcases hb.least i hi' hp with h | h
        · exact Rat.le_of_lt h
        · rw [h.1]; exact Rat.le_refl
      have h3 : T.A i s * (T.A r T.n / T.A r s) ≤ T.A i s * (T.A i T.n / T.A i s) := Rat.mul_le_mul_of_nonneg_left hl (Rat.le_of_lt hp)
      have h4 : T.A i s * (T.A i T.n / T.A i s) = T.A i T.n := by grind
      grind
    · have h5 : 0 ≤ (- T.A i s) * (T.A r T.n / T.A r s) := Rat.mul_nonneg (by grind) hq
      grind
/-- A run of Bland's rule from time 0 to time len. -/
structure Run (u : Nat) (len : Nat) where
  T : Nat → Tab
  r : Nat → Nat
  s : Nat → Nat
  wf : (T 0).WF
  feas : (T 0).Feas
  un : u ≤ (T 0).n
  step : ∀ k, k < len → (T k).Bland u (r k) (s k)
  next : ∀ k, k < len → T (k + 1) = (T k).pivot (r k) (s k)
namespace Run
variable {u len : Nat} (R : Run u len)
theorem n_eq (k : Nat) (hk : k ≤ len) : (R.T k).n = (R.T 0).n := by
  induction k with
  | zero => rfl
  | succ k ih => rw [R.next k (by omega)]; exact ih (by omega)
theorem sn {k : Nat} (hk : k < len) : R.s k < (R.T k).n := by
  have := (R.step k hk).su
  have := R.un
  rw [R.n_eq k (by omega)]; omega
theorem wfs (k : Nat) (hk : k ≤ len) : (R.T k).WF := by
  induction k with
  | zero => exact R.wf
  | succ k ih =>
    rw [R.next k (by omega)]
    have hb := R.step k (by omega)
    have := hb.pos
    exact pivot_wf (ih (by omega)) hb.rm (R.sn (by omega)) (by grind)
theorem feass (k : Nat) (hk : k ≤ len) : (R.T k).Feas := by
  induction k with
  | zero => exact R.feas
  | succ k ih =>
    rw [R.next k (by omega)]
    exact pivot_feas (ih (by omega)) (R.step k (by omega))
theorem sol_iff (k : Nat) (hk : k ≤ len) (x : Nat → Rat) : (R.T k).Sol x ↔ (R.T 0).Sol x := by
  induction k with
  | zero => exact Iff.rfl
  | succ k ih =>
    rw [R.next k (by omega)]
    have hb := R.step k (by omega)
    have := hb.pos
    rw [sol_pivot hb.rm (by grind)]
    exact ih (by omega)
theorem cost_eq (k : Nat) (hk : k ≤ len) (x : Nat → Rat) (hx : (R.T 0).Sol x) : (R.T k).cost x = (R.T 0).cost x := by
  induction k with
  | zero => rfl
  | succ k ih =>
    rw [R.next k (by omega)]
    have hb := R.step k (by omega)
    rw [cost_pivot hb.rm x ((R.sol_iff k (by omega) x).2 hx)]
    exact ih (by omega)
/-- Column j is basic at time k. -/
def basic (k j : Nat) : Prop := ∃ i, i < (R.T k).m ∧ (R.T k).B i = j
/-- The value of column j in the vector of the basis. -/
def val (T : Tab) (j : Nat) : Rat := sumN T.m (fun i => if T.B i = j then T.A i T.n else 0)
theorem val_of {T : Tab} (h : T.WF) {i : Nat} (hi : i < T.m) : val T (T.B i) = T.A i T.n := by
  unfold val
  rw [sumN_single hi, if_pos rfl]
  intro k hk hne
  rw [if_neg]
  exact fun e => hne (h.inj hk hi e)
def Deg (k : Nat) : Prop := (R.T k).A (R.r k) (R.T k).n = 0
theorem val_next {k : Nat} (hk : k < len) (hd : R.Deg k) (j : Nat) : val (R.T (k + 1)) j = val (R.T k) j := by
  rw [R.next k hk]
  unfold val
  unfold Deg at hd
  refine sumN_congr fun i hi => ?_
  simp only [pivot]
  rw [hd]
  by_cases e : i = R.r k
  · subst e; simp only [if_true, hd]; grind
  · simp only [if_neg e]; grind
theorem val_same {a b : Nat} (hab : a ≤ b) (hb : b ≤ len) (hd : ∀ k, a ≤ k → k < b → R.Deg k) (j : Nat) : val (R.T b) j = val (R.T a) j := by
  induction b with
  | zero => obtain rfl : a = 0 := by omega
            rfl
  | succ b ih =>
    by_cases e : a = b + 1
    · subst e; rfl
    · rw [R.val_next (by omega) (hd b (by omega) (by omega))]
      exact ih (by omega) (by omega) (fun k h1 h2 => hd k h1 (by omega))
theorem basic_next {k : Nat} (hk : k < len) (j : Nat) : R.basic (k + 1) j ↔ (j = R.s k ∨ (R.basic k j ∧ j ≠ (R.T k).B (R.r k))) := by
  unfold basic
  rw [R.next k hk]
  have hb := R.step k hk
  have hw := R.wfs k (by omega)
  constructor
  · rintro ⟨i, hi, e⟩
    have hi' : i < (R.T k).m := hi
    have e' : (if i = R.r k then R.s k else (R.T k).B i) = j := e
    by_cases er : i = R.r k
    · rw [if_pos er] at e'; exact .inl e'.symm
    · rw [if_neg er] at e'
      refine .inr ⟨⟨i, hi', e'⟩, fun h => er (hw.inj hi' hb.rm (by rw [e', h]))⟩
  · rintro (h | ⟨⟨i, hi, e⟩, hne⟩)
    · refine ⟨R.r k, hb.rm, ?_⟩
      show (if R.r k = R.r k then R.s k else _) = j
      rw [if_pos rfl, h]
    · refine ⟨i, hi, ?_⟩
      show (if i = R.r k then R.s k else (R.T k).B i) = j
      rw [if_neg, e]
      intro er; exact hne (by rw [← e, er])
/-- What enters is not basic. -/
theorem enters_not {k : Nat} (hk : k < len) : ¬ R.basic k (R.s k) := by
  rintro ⟨i, hi, e⟩
  have := (R.wfs k (by omega)).zero i hi
  rw [e] at this
  have := (R.step k hk).neg
  grind
theorem leaves_is {k : Nat} (hk : k < len) : R.basic k ((R.T k).B (R.r k)) := ⟨_, (R.step k hk).rm, rfl⟩
/-- If a column's status differs at two times, it enters or leaves in between. -/
theorem change {a b : Nat} (hab : a ≤ b) (hb : b ≤ len) (j : Nat) (h : ¬ (R.basic a j ↔ R.basic b j)) :
    ∃ k, a ≤ k ∧ k < b ∧ (R.s k = j ∨ (R.T k).B (R.r k) = j) := by
  induction b with
  | zero => obtain rfl : a = 0 := by omega
            exact absurd Iff.rfl h
  | succ b ih =>
    by_cases e : a = b + 1
    · subst e; exact absurd Iff.rfl h
    · by_cases h2 : R.s b = j ∨ (R.T b).B (R.r b) = j
      · exact ⟨b, by omega, by omega, h2⟩
      · have : R.basic (b + 1) j ↔ R.basic b j := by
          rw [R.basic_next (by omega)]
          constructor
          · rintro (h | h)
            · exact absurd (.inl h.symm) h2
            · exact h.1
          · exact fun h => .inr ⟨h, fun e => h2 (.inr e.symm)⟩
        obtain ⟨k, h3, h4, h5⟩ := ih (by omega) (by omega) (fun hh => h (hh.trans this.symm))
        exact ⟨k, h3, by omega, h5⟩
/-- A column that enters or leaves at a degenerate time has the value 0 there. -/
theorem val_zero {k : Nat} (hk : k < len) (hd : R.Deg k) {j : Nat} (h : R.s k = j ∨ (R.T k).B (R.r k) = j) : val (R.T k) j = 0 := by
  rcases h with h | h
  · rw [← R.val_next hk hd]
    have e : j = (R.T (k + 1)).B (R.r k) := by
      rw [R.next k hk]
      show j = if R.r k = R.r k then R.s k else _
      rw [if_pos rfl, h]
    rw [e, val_of (R.wfs (k + 1) (by omega)) (by rw [R.next k hk]; exact (R.step k hk).rm)]
    rw [R.next k hk]
    show (if R.r k = R.r k then (R.T k).A (R.r k) (R.T k).n / (R.T k).A (R.r k) (R.s k) else _) = 0
    rw [if_pos rfl]
    unfold Deg at hd
    rw [hd]; grind
  · rw [← h, val_of (R.wfs k (by omega)) (R.step k hk).rm]
    exact hd
/-- The heart: in a degenerate stretch over columns up to t, column t does not both enter (at q) and leave (at p). -/
theorem heart {a b t p q : Nat} (hb : b ≤ len) (hd : ∀ k, a ≤ k → k < b → R.Deg k)
    (hle : ∀ k, a ≤ k → k < b → R.s k ≤ t ∧ (R.T k).B (R.r k) ≤ t) (hp1 : a ≤ p) (hp2 : p < b) (hq1 : a ≤ q) (hq2 : q < b)
    (hp : (R.T p).B (R.r p) = t) (hq : R.s q = t) : False := by
  have bp := R.step p (by omega)
  have bq := R.step q (by omega)
  have wp := R.wfs p (by omega)
  have hs : R.s p < t := by
    have h1 := (hle p hp1 hp2).1
    have h2 : R.s p ≠ t := fun e => R.enters_not (k := p) (by omega) (by rw [e, ← hp]; exact R.leaves_is (by omega))
    omega
  have hsn : R.s p ≤ (R.T p).n := Nat.le_of_lt (R.sn (by omega))
  have hsol := sol_dir wp (R.s p) hsn
  have hsol0 := (R.sol_iff p (by omega) _).1 hsol
  have hc := cost_dir wp (R.s p) hsn
  rw [R.cost_eq p (by omega) _ hsol0, ← R.cost_eq q (by omega) _ hsol0] at hc
  have en : (R.T q).n = (R.T p).n := by rw [R.n_eq p (by omega), R.n_eq q (by omega)]
  unfold cost at hc
  rw [en, dot_dir _ wp.lt _ hsn] at hc
  have hcs : 0 ≤ (R.T q).c (R.s p) := bq.first _ (by rw [hq]; exact hs)
  have hneg := bp.neg
  have hsum : 0 < sumN (R.T p).m (fun i => (R.T q).c ((R.T p).B i) * (R.T p).A i (R.s p)) := by grind
  obtain ⟨i, hi, hpos⟩ := sumN_pos_ex hsum
  have hnb : ¬ R.basic q ((R.T p).B i) := by
    rintro ⟨k, hk, e⟩
    have := (R.wfs q (by omega)).zero k hk
    rw [e] at this
    rw [this] at hpos; grind
  have hib : R.basic p ((R.T p).B i) := ⟨i, hi, rfl⟩
  have hex : ∃ k, a ≤ k ∧ k < b ∧ min p q ≤ k ∧ (R.s k = (R.T p).B i ∨ (R.T k).B (R.r k) = (R.T p).B i) := by
    rcases Nat.le_total p q with hpq | hpq
    · obtain ⟨k, h1, h2, h3⟩ := R.change hpq (by omega) ((R.T p).B i) (fun h => hnb (h.1 hib))
      exact ⟨k, by omega, by omega, by omega, h3⟩
    · obtain ⟨k, h1, h2, h3⟩ := R.change hpq (by omega) ((R.T p).B i) (fun h => hnb (h.2 hib))
      exact ⟨k, by omega, by omega, by omega, h3⟩
  obtain ⟨k, hk1, hk2, _, hk3⟩ := hex
  have hbt : (R.T p).B i ≤ t := by
    rcases hk3 with e | e
    · rw [← e]; exact (hle k hk1 hk2).1
    · rw [← e]; exact (hle k hk1 hk2).2
  have hv0 : val (R.T k) ((R.T p).B i) = 0 := R.val_zero (by omega) (hd k hk1 hk2) hk3
  have hvp : val (R.T p) ((R.T p).B i) = 0 := by
    rcases Nat.le_total p k with h | h
    · rw [← R.val_same h (by omega) (fun x h1 h2 => hd x (by omega) (by omega))]; exact hv0
    · rw [R.val_same h (by omega) (fun x h1 h2 => hd x (by omega) (by omega))]; exact hv0
  rw [val_of wp hi] at hvp
  by_cases et : (R.T p).B i = t
  · have : i = R.r p := wp.inj hi bp.rm (by rw [et, hp])
    subst this
    have h1 := bq.neg
    rw [hq, ← et] at h1
    have h2 := bp.pos
    have h3 : (R.T q).c ((R.T p).B (R.r p)) * (R.T p).A (R.r p) (R.s p) < 0 := by
      have := Rat.mul_pos (show 0 < -(R.T q).c ((R.T p).B (R.r p)) by grind) h2
      grind
    grind
  · have hlt : (R.T p).B i < t := by omega
    have hc0 : 0 ≤ (R.T q).c ((R.T p).B i) := bq.first _ (by rw [hq]; exact hlt)
    have hA : 0 < (R.T p).A i (R.s p) := by
      false_or_by_contra
      rename_i hn
      have : 0 ≤ (R.T q).c ((R.T p).B i) * (-(R.T p).A i (R.s p)) := Rat.mul_nonneg hc0 (by grind)
      grind
    have hdp := hd p hp1 hp2
    unfold Deg at hdp
    have e0 : (0 : Rat) / (R.T p).A (R.r p) (R.s p) = 0 := by grind
    have e1 : (0 : Rat) / (R.T p).A i (R.s p) = 0 := by grind
    rcases bp.least i hi hA with h | h
    · rw [hdp, hvp, e0, e1] at h; exact absurd h (by decide)
    · have := h.2; omega
/-- A degenerate stretch over columns below t is shorter than 2 ^ t. -/
theorem short (t : Nat) : ∀ a b, a ≤ b → b ≤ len → (∀ k, a ≤ k → k < b → R.Deg k) →
    (∀ k, a ≤ k → k < b → R.s k < t ∧ (R.T k).B (R.r k) < t) → b < a + 2 ^ t := by
  induction t with
  | zero =>
    intro a b hab hb hd hlt
    by_cases e : a = b
    · subst e; simp
    · have := hlt a (Nat.le_refl _) (by omega); omega
  | succ t ih =>
    intro a b hab hb hd hlt
    have hle : ∀ k, a ≤ k → k < b → R.s k ≤ t ∧ (R.T k).B (R.r k) ≤ t := fun k h1 h2 => by
      have := hlt k h1 h2; omega
    have h2 : 2 ^ (t + 1) = 2 ^ t + 2 ^ t := by rw [Nat.pow_succ]; omega
    have hpos : 0 < 2 ^ t := Nat.pow_pos (by omega)
    -- at most one time involves t
    have once : ∀ k l, a ≤ k → k < l → l < b → (R.s k = t ∨ (R.T k).B (R.r k) = t) → ¬ (R.s l = t ∨ (R.T l).B (R.r l) = t) := by
      intro k l hk hkl hl hk' hl'
      rcases hk' with hk' | hk'
      · -- t enters at k, so it does not leave behind, so it stays basic, so it does not enter at l
        have hl2 : R.s l = t := by
          rcases hl' with h | h
          · exact h
          · exact (R.heart hb hd hle (p := l) (q := k) (by omega) (by omega) (by omega) (by omega) h hk').elim
        have hbk : R.basic (k + 1) t := (R.basic_next (by omega) t).2 (.inl hk'.symm)
        have hbl : ¬ R.basic l t := by rw [← hl2]; exact R.enters_not (by omega)
        obtain ⟨x, h1, h2, h3⟩ := R.change (a := k + 1) (b := l) (by omega) (by omega) t (fun h => hbl (h.1 hbk))
        -- the first change behind k is a leaving
        have hx : ∀ y, k + 1 ≤ y → y ≤ l → R.basic y t := by
          intro y hy
          induction y with
          | zero => omega
          | succ y ihy =>
            intro hyl
            by_cases e : k = y
            · subst e; exact hbk
            · have := ihy (by omega) (by omega)
              refine (R.basic_next (by omega) t).2 (.inr ⟨this, fun e => ?_⟩)
              exact R.heart hb hd hle (p := y) (q := k) (by omega) (by omega) (by omega) (by omega) e.symm hk'
        exact hbl (hx l (by omega) (Nat.le_refl _))
      · have hl2 : (R.T l).B (R.r l) = t := by
          rcases hl' with h | h
          · exact (R.heart hb hd hle (p := k) (q := l) (by omega) (by omega) (by omega) (by omega) hk' h).elim
          · exact h
        have hbk : ¬ R.basic (k + 1) t := by
          rw [R.basic_next (by omega) t]
          rintro (h | h)
          · exact R.enters_not (k := k) (by omega) (by rw [← h, ← hk']; exact R.leaves_is (by omega))
          · exact h.2 hk'.symm
        have hbl : R.basic l t := by rw [← hl2]; exact R.leaves_is (by omega)
        have hx : ∀ y, k + 1 ≤ y → y ≤ l → ¬ R.basic y t := by
          intro y hy
          induction y with
          | zero => omega
          | succ y ihy =>
            intro hyl
            by_cases e : k = y
            · subst e; exact hbk
            · have := ihy (by omega) (by omega)
              rw [R.basic_next (by omega) t]
              rintro (h | h)
              · exact R.heart hb hd hle (p := k) (q := y) (by omega) (by omega) (by omega) (by omega) hk' h.symm
              · exact this h.1
        exact hx l (by omega) (Nat.le_refl _) hbl
    by_cases hex : ∃ k, a ≤ k ∧ k < b ∧ (R.s k = t ∨ (R.T k).B (R.r k) = t)
    · obtain ⟨k, hk1, hk2, hk3⟩ := hex
      have h3 := ih a k (by omega) (by omega) (fun x h1 h2 => hd x h1 (by omega)) (fun x h1 h2 => by
        have hl := hle x h1 (by omega)
        have hn : ¬ (R.s x = t ∨ (R.T x).B (R.r x) = t) := fun h => once x k h1 h2 hk2 h hk3
        omega)
      have h4 := ih (k + 1) b (by omega) hb (fun x h1 h2 => hd x (by omega) h2) (fun x h1 h2 => by
        have hl := hle x (by omega) h2
        have hn := once k x hk1 (by omega) h2 hk3
        omega)
      omega
    · have h3 := ih a b hab hb hd (fun x h1 h2 => by
        have hl := hle x h1 h2
        have hn : ¬ (R.s x = t ∨ (R.T x).B (R.r x) = t) := fun h => hex ⟨x, h1, h2, h⟩
        omega)
      omega
end Run
end Tab
end Lp
namespace Lp
namespace Tab
/-- Two tableaus of one system and one objective. -/
structure Same (T S : Tab) : Prop where
  m : S.m = T.m
  n : S.n = T.n
  sol : ∀ x, S.Sol x ↔ T.Sol x
  cost : ∀ x, T.Sol x → S.cost x = T.cost x
theorem Same.symm {T S : Tab} (h : Same T S) : Same S T := ⟨h.m.symm, h.n.symm, fun x => (h.sol x).symm, fun x hx => (h.cost x ((h.sol x).1 hx)).symm⟩
theorem Same.trans {T S R : Tab} (h : Same T S) (h' : Same S R) : Same T R :=
  ⟨h'.m.trans h.m, h'.n.trans h.n, fun x => (h'.sol x).trans (h.sol x), fun x hx => (h'.cost x ((h.sol x).2 hx)).trans (h.cost x hx)⟩
theorem Same.pivot {T : Tab} {r s : Nat} (hr : r < T.m) (hp : T.A r s ≠ 0) : Same T (T.pivot r s) :=
  ⟨rfl, rfl, fun x => sol_pivot hr hp x, fun x hx => cost_pivot hr x hx⟩
theorem value_of_basis {T S : Tab} (h : Same T S) (hT : T.WF) (hS : S.WF) (hB : ∀ i, i < T.m → S.B i = T.B i) : S.c S.n = T.c T.n := by
  have h1 := sol_dir hT T.n (Nat.le_refl _)
  have h2 := h.cost _ h1
  rw [cost_dir hT T.n (Nat.le_refl _)] at h2
  unfold cost at h2
  rw [h.n, dot_dir T hT.lt _ (Nat.le_refl _), sumN_eq0] at h2
  · rw [h.n]; grind
  · intro i hi
    rw [← hB i hi, hS.zero i (by rw [h.m]; exact hi)]; grind
/-- All lists of m numbers below n. -/
def allB (n : Nat) : Nat → List (List Nat)
  | 0 => [[]]
  | m + 1 => (allB n m).flatMap fun l => (List.range n).map fun j => l ++ [j]
theorem mem_allB (n m : Nat) (f : Nat → Nat) (h : ∀ i, i < m → f i < n) : (List.range m).map f ∈ allB n m := by
  induction m with
  | zero => simp [allB]
  | succ m ih =>
    simp only [allB, List.mem_flatMap, List.mem_map, List.mem_range]
    exact ⟨_, ih (fun i hi => h i (by omega)), f m, h m (by omega), by rw [List.range_succ, List.map_append]; rfl⟩
theorem countP_lt {α : Type} (p q : α → Bool) (l : List α) (h : ∀ x, x ∈ l → p x = true → q x = true)
    (hx : ∃ x, x ∈ l ∧ q x = true ∧ p x = false) : l.countP p < l.countP q := by
  induction l with
  | nil => obtain ⟨x, hx, _⟩ := hx; cases hx
  | cons a l ih =>
    have hle : l.countP p ≤ l.countP q := List.countP_mono_left fun x hx hp => h x (List.mem_cons_of_mem _ hx) hp
    rw [List.countP_cons, List.countP_cons]
    obtain ⟨x, hx1, hx2, hx3⟩ := hx
    rcases List.mem_cons.1 hx1 with e | e
    · subst e
      rw [hx2, hx3]; simp; omega
    · have := ih (fun y hy => h y (List.mem_cons_of_mem _ hy)) ⟨x, e, hx2, hx3⟩
      have ha := h a (List.mem_cons_self ..)
      cases hp : p a
      · simp; omega
      · rw [ha hp]; simp; omega
/-- A basis whose value is less. -/
def Better (T : Tab) (l : List Nat) : Prop := ∃ S : Tab, S.WF ∧ Same T S ∧ (List.range T.m).map S.B = l ∧ T.c T.n < S.c S.n
open Classical in
/-- The number of bases whose value is less. -/
noncomputable def rank (T : Tab) : Nat := (allB T.n T.m).countP fun l => decide (Better T l)
theorem Better.of {T S : Tab} (h : Same T S) (hv : T.c T.n ≤ S.c S.n) {l : List Nat} (hb : Better S l) : Better T l := by
  obtain ⟨R, h1, h2, h3, h4⟩ := hb
  refine ⟨R, h1, h.trans h2, by rw [← h.m]; exact h3, by grind⟩
open Classical in
theorem rank_le {T S : Tab} (h : Same T S) (hv : T.c T.n ≤ S.c S.n) : rank S ≤ rank T := by
  unfold rank
  rw [h.m, h.n]
  exact List.countP_mono_left fun l _ hp => by
    have := of_decide_eq_true hp
    exact decide_eq_true (this.of h hv)
open Classical in
theorem rank_lt {T S : Tab} (h : Same T S) (hS : S.WF) (hv : T.c T.n < S.c S.n) : rank S < rank T := by
  unfold rank
  rw [h.m, h.n]
  refine countP_lt _ _ _ (fun l _ hp => ?_) ⟨(List.range T.m).map S.B, ?_, ?_, ?_⟩
  · have := of_decide_eq_true hp
    exact decide_eq_true (this.of h (Rat.le_of_lt hv))
  · exact mem_allB _ _ _ (fun i hi => by rw [← h.n]; exact hS.lt i (by rw [h.m]; exact hi))
  · exact decide_eq_true ⟨S, hS, h, rfl, hv⟩
  · refine decide_eq_false ?_
    rintro ⟨R, h1, h2, h3, h4⟩
    have : R.c R.n = S.c S.n := value_of_basis h2 hS h1 (fun i hi => by
      rw [h.m] at h3 hi
      exact List.map_inj_left.1 h3 i (List.mem_range.2 hi))
    grind
theorem bland_value {T : Tab} {u r s : Nat} (hf : T.Feas) (hb : T.Bland u r s) :
    T.c T.n ≤ (T.pivot r s).c (T.pivot r s).n ∧ (T.A r T.n ≠ 0 → T.c T.n < (T.pivot r s).c (T.pivot r s).n) := by
  have e : (T.pivot r s).c (T.pivot r s).n = T.c T.n - T.c s * (T.A r T.n / T.A r s) := rfl
  rw [e]
  have hq := div_nonneg (hf r hb.rm) hb.pos
  have hn := hb.neg
  constructor
  · have := Rat.mul_nonneg (show 0 ≤ - T.c s by grind) hq
    grind
  · intro h0
    have hp : 0 < T.A r T.n / T.A r s := by
      have hpos := hb.pos
      have : T.A r T.n / T.A r s ≠ 0 := fun h => h0 (by
        have : T.A r T.n / T.A r s * T.A r s = T.A r T.n := by grind
        grind)
      grind
    have := Rat.mul_pos (show 0 < - T.c s by grind) hp
    grind
/-- One round of Bland's rule. -/
def Step (u : Nat) (S T : Tab) : Prop := ∃ r s, T.Bland u r s ∧ S = T.pivot r s
def Run.nil {u : Nat} (T : Tab) (hw : T.WF) (hf : T.Feas) (hu : u ≤ T.n) : Run u 0 :=
  { T := fun _ => T, r := fun _ => 0, s := fun _ => 0, wf := hw, feas := hf, un := hu
    step := fun k hk => absurd hk (by omega), next := fun k hk => absurd hk (by omega) }
def Run.snoc {u h : Nat} (R : Run u h) (r s : Nat) (hb : (R.T h).Bland u r s) : Run u (h + 1) :=
  { T := fun k => if k ≤ h then R.T k else (R.T h).pivot r s
    r := fun k => if k < h then R.r k else r
    s := fun k => if k < h then R.s k else s
    wf := by simpa using R.wf
    feas := by simpa using R.feas
    un := by simpa using R.un
    step := fun k hk => by
      simp only [show k ≤ h by omega, if_true]
      by_cases e : k < h
      · simp only [e, if_true]; exact R.step k e
      · simp only [e, if_false]
        obtain rfl : k = h := by omega
        exact hb
    next := fun k hk => by
      simp only [show k ≤ h by omega, if_true]
      by_cases e : k < h
      · simp only [e, if_true, show k + 1 ≤ h by omega]; exact R.next k e
      · simp only [e, if_false]
        obtain rfl : k = h := by omega
        simp only [show ¬ (k + 1 ≤ k) by omega, if_false] }
/-- Bland's rule ends. -/
theorem ends (u : Nat) : ∀ (v : Nat) (T : Tab), T.WF → T.Feas → u ≤ T.n → rank T ≤ v → Acc (Step u) T := by
  intro v
  induction v using Nat.strongRecOn with
  | _ v ih =>
    intro T hw hf hu hv
    have key : ∀ d h (R : Run u h), (∀ k, k < h → R.Deg k) → rank (R.T h) ≤ v → 2 ^ (R.T 0).n ≤ h + d → Acc (Step u) (R.T h) := by
      intro d
      induction d with
      | zero =>
        intro h R hd hr hp
        have := R.short (R.T 0).n 0 h (by omega) (Nat.le_refl _) (fun k _ hk => hd k hk) (fun k _ hk => by
          refine ⟨?_, ?_⟩
          · have := R.sn hk
            rw [R.n_eq k (by omega)] at this; exact this
          · have := (R.wfs k (by omega)).lt _ (R.step k hk).rm
            rw [R.n_eq k (by omega)] at this; exact this)
        omega
      | succ d ihd =>
        intro h R hd hr hp
        refine Acc.intro _ fun S hS => ?_
        obtain ⟨r, s, hb, rfl⟩ := hS
        have hwf := R.wfs h (Nat.le_refl _)
        have hfe := R.feass h (Nat.le_refl _)
        have hun : u ≤ (R.T h).n := by rw [R.n_eq h (Nat.le_refl _)]; exact R.un
        have hpos := hb.pos
        have hne : (R.T h).A r s ≠ 0 := by grind
        have hsn : s < (R.T h).n := by have := hb.su; omega
        have hsame := Same.pivot hb.rm hne
        have hval := bland_value hfe hb
        by_cases h0 : (R.T h).A r (R.T h).n = 0
        · have e : (R.snoc r s hb).T (h + 1) = (R.T h).pivot r s := by
            show (if h + 1 ≤ h then _ else _) = _
            rw [if_neg (by omega)]
          rw [← e]
          refine ihd (h + 1) (R.snoc r s hb) (fun k hk => ?_) ?_ ?_
          · unfold Run.Deg
            have e1 : (R.snoc r s hb).T k = R.T k := by
              show (if k ≤ h then _ else _) = _
              rw [if_pos (by omega)]
            rw [e1]
            by_cases ek : k < h
            · have e2 : (R.snoc r s hb).r k = R.r k := by
                show (if k < h then _ else _) = _
                rw [if_pos ek]
              rw [e2]; exact hd k ek
            · obtain rfl : k = h := by omega
              have e2 : (R.snoc r s hb).r k = r := by
                show (if k < k then _ else _) = _
                rw [if_neg (by omega)]
              rw [e2]; exact h0
          · rw [e]; exact Nat.le_trans (rank_le hsame hval.1) hr
          · have e3 : (R.snoc r s hb).T 0 = R.T 0 := by
              show (if 0 ≤ h then R.T 0 else (R.T h).pivot r s) = _
              rw [if_pos (by omega)]
            rw [e3]; omega
        · have hlt := rank_lt hsame (pivot_wf hwf hb.rm hsn hne) (hval.2 h0)
          exact ih (rank ((R.T h).pivot r s)) (by omega) _ (pivot_wf hwf hb.rm hsn hne) (pivot_feas hfe hb) hun (Nat.le_refl _)
    have := key (2 ^ T.n) 0 (Run.nil T hw hf hu) (fun k hk => absurd hk (by omega)) hv (by
      show 2 ^ T.n ≤ 0 + 2 ^ T.n
      omega)
    exact this
theorem bland_acc {u : Nat} {T : Tab} (hw : T.WF) (hf : T.Feas) (hu : u ≤ T.n) : Acc (Step u) T := ends u _ T hw hf hu (Nat.le_refl _)
end Tab
end Lp
/- Linear programs, their certificates, and what a tableau tells of them. -/
namespace Lp
/-- A linear program; rel is 1 (at most), 2 (equal), 3 (at least). -/
structure LP where
  n : Nat
  m : Nat
  free : Nat → Bool
  a : Nat → Nat → Rat
  rel : Nat → Int
  b : Nat → Rat
/-- A number stands in a relation to 0. -/
def relOk (r : Int) (x : Rat) : Prop := (r = 1 → x ≤ 0) ∧ (r = 2 → x = 0) ∧ (r = 3 → 0 ≤ x)
def dotN (n : Nat) (c x : Nat → Rat) : Rat := sumN n (fun j => c j * x j)
namespace LP
variable (p : LP)
def Valid : Prop := ∀ i, i < p.m → p.rel i = 1 ∨ p.rel i = 2 ∨ p.rel i = 3
/-- The rows hold with their bounds times t. -/
def Meets (t : Rat) (x : Nat → Rat) : Prop := (∀ j, j < p.n → p.free j = false → 0 ≤ x j) ∧ ∀ i, i < p.m → relOk (p.rel i) (dotN p.n (p.a i) x - p.b i * t)
def Signed (y : Nat → Rat) : Prop := ∀ i, i < p.m → (p.rel i = 3 → 0 ≤ y i) ∧ (p.rel i = 1 → y i ≤ 0)
def colsum (y : Nat → Rat) (j : Nat) : Rat := sumN p.m (fun i => y i * p.a i j)
def bndsum (y : Nat → Rat) : Rat := sumN p.m (fun i => y i * p.b i)
structure CertOpt (c x y : Nat → Rat) : Prop where
  feas : p.Meets 1 x
  signed : p.Signed y
  cols : ∀ j, j < p.n → 0 ≤ c j - p.colsum y j ∧ (p.free j = true → c j - p.colsum y j ≤ 0)
  eq : p.bndsum y = dotN p.n c x
structure CertInf (y : Nat → Rat) : Prop where
  signed : p.Signed y
  cols : ∀ j, j < p.n → p.colsum y j ≤ 0 ∧ (p.free j = true → 0 ≤ p.colsum y j)
  pos : 0 < p.bndsum y
structure CertUnb (c x r : Nat → Rat) : Prop where
  feas : p.Meets 1 x
  ray : p.Meets 0 r
  neg : dotN p.n c r < 0
def IsInf : Prop := ∀ x, ¬ p.Meets 1 x
def IsOpt (c : Nat → Rat) (v : Rat) : Prop := (∃ x, p.Meets 1 x ∧ dotN p.n c x = v) ∧ ∀ x, p.Meets 1 x → v ≤ dotN p.n c x
def IsUnb (c : Nat → Rat) : Prop := (∃ x, p.Meets 1 x) ∧ ∀ v, ∃ x, p.Meets 1 x ∧ dotN p.n c x < v
end LP
theorem dotN_add (n : Nat) (c x y : Nat → Rat) : dotN n c (fun j => x j + y j) = dotN n c x + dotN n c y := by
  unfold dotN
  rw [← sumN_add]
  exact sumN_congr fun j _ => by grind
theorem dotN_smul (n : Nat) (c x : Nat → Rat) (k : Rat) : dotN n c (fun j => k * x j) = k * dotN n c x := by
  unfold dotN
  rw [← sumN_mul]
  exact sumN_congr fun j _ => by grind
theorem dotN_congr {n : Nat} {c c' x x' : Nat → Rat} (h : ∀ j, j < n → c j = c' j) (h' : ∀ j, j < n → x j = x' j) : dotN n c x = dotN n c' x' :=
  sumN_congr fun j hj => by rw [h j hj, h' j hj]
namespace LP
variable {p : LP}
/-- The columns' sums over a vector are the rows' values over the multipliers. -/
theorem colsum_dot (p : LP) (y x : Nat → Rat) : dotN p.n (p.colsum y) x = sumN p.m (fun i => y i * dotN p.n (p.a i) x) := by
  unfold dotN colsum
  have h1 : ∀ j, sumN p.m (fun i => y i * p.a i j) * x j = sumN p.m (fun i => y i * p.a i j * x j) := fun j => (sumN_mul' _ _ _).symm
  have h2 : ∀ i, y i * sumN p.n (fun j => p.a i j * x j) = sumN p.n (fun j => y i * p.a i j * x j) := fun i => by
    rw [← sumN_mul]
    exact sumN_congr fun j _ => by grind
  rw [sumN_congr (fun j _ => h1 j), sumN_congr (fun i _ => h2 i), sumN_comm]
theorem weak (hv : p.Valid) {t : Rat} {x y : Nat → Rat} (hx : p.Meets t x) (hy : p.Signed y) : p.bndsum y * t ≤ dotN p.n (p.colsum y) x := by
  rw [colsum_dot]
  unfold bndsum
  rw [← sumN_mul']
  refine sumN_le fun i hi => ?_
  have h1 := hx.2 i hi
  have h2 := hy i hi
  rcases hv i hi with e | e | e
  · have h3 := h1.1 e
    have h4 := h2.2 e
    have h5 : 0 ≤ (- y i) * (- (dotN p.n (p.a i) x - p.b i * t)) := Rat.mul_nonneg (by grind) (by grind)
    grind
  · have h3 := h1.2.1 e
    have : dotN p.n (p.a i) x = p.b i * t := by grind
    rw [this]; grind
  · have h3 := h1.2.2 e
    have h4 := h2.1 e
    have h5 : 0 ≤ y i * (dotN p.n (p.a i) x - p.b i * t) := Rat.mul_nonneg h4 h3
    grind
theorem CertInf.isInf (hv : p.Valid) {y : Nat → Rat} (h : p.CertInf y) : p.IsInf := fun x hx => by
  have h1 := weak hv hx h.signed
  have h2 : dotN p.n (p.colsum y) x ≤ 0 := by
    have : dotN p.n (p.colsum y) x ≤ sumN p.n (fun _ => 0) := sumN_le fun j hj => by
      have h3 := h.cols j hj
      cases hf : p.free j with
      | true => have h4 := h3.2 hf; have : p.colsum y j = 0 := by grind
                rw [this]; grind
      | false =>
        have h5 := hx.1 j hj hf
        have : 0 ≤ (- p.colsum y j) * x j := Rat.mul_nonneg (by grind) h5
        grind
    rwa [sumN_const0] at this
  have := h.pos
  grind
/-- The multipliers bound the objective from below. -/
theorem below {c x y : Nat → Rat} (hv : p.Valid) (hx : p.Meets 1 x) (hy : p.Signed y) (hc : ∀ j, j < p.n → 0 ≤ c j - p.colsum y j ∧ (p.free j = true → c j - p.colsum y j ≤ 0)) : p.bndsum y ≤ dotN p.n c x := by
  have h1 := weak hv hx hy
  have h2 : dotN p.n (p.colsum y) x ≤ dotN p.n c x := sumN_le fun j hj => by
    have h3 := hc j hj
    cases hf : p.free j with
    | true => have h4 := h3.2 hf; have : p.colsum y j = c j := by grind
              rw [this]; exact Rat.le_refl
    | false =>
      have h5 := hx.1 j hj hf
      have : 0 ≤ (c j - p.colsum y j) * x j := Rat.mul_nonneg h3.1 h5
      grind
  grind
theorem CertOpt.isOpt (hv : p.Valid) {c x y : Nat → Rat} (h : p.CertOpt c x y) : p.IsOpt c (dotN p.n c x) :=
  ⟨⟨x, h.feas, rfl⟩, fun x' hx' => by rw [← h.eq]; exact below hv hx' h.signed h.cols⟩
theorem relOk_add {r : Int} {x y : Rat} (hx : relOk r x) (hy : relOk r y) : relOk r (x + y) :=
  ⟨fun e => by have := hx.1 e; have := hy.1 e; grind, fun e => by have := hx.2.1 e; have := hy.2.1 e; grind, fun e => by have := hx.2.2 e; have := hy.2.2 e; grind⟩
theorem relOk_mul {r : Int} {x k : Rat} (hx : relOk r x) (hk : 0 ≤ k) : relOk r (k * x) :=
  ⟨fun e => by have := hx.1 e; have : 0 ≤ k * (-x) := Rat.mul_nonneg hk (by grind)
               grind, fun e => by have := hx.2.1 e; rw [this]; grind, fun e => Rat.mul_nonneg hk (hx.2.2 e)⟩
theorem Meets.move {t : Rat} {x r : Nat → Rat} (hx : p.Meets t x) (hr : p.Meets 0 r) {k : Rat} (hk : 0 ≤ k) : p.Meets t (fun j => x j + k * r j) := by
  refine ⟨fun j hj hf => ?_, fun i hi => ?_⟩
  · have h1 := hx.1 j hj hf
    have h2 := Rat.mul_nonneg hk (hr.1 j hj hf)
    grind
  · have h1 := relOk_add (hx.2 i hi) (relOk_mul (hr.2 i hi) hk)
    rw [dotN_add, dotN_smul]
    have e : dotN p.n (p.a i) x - p.b i * t + k * (dotN p.n (p.a i) r - p.b i * 0) = dotN p.n (p.a i) x + k * dotN p.n (p.a i) r - p.b i * t := by grind
    rwa [e] at h1
theorem CertUnb.isUnb {c x r : Nat → Rat} (h : p.CertUnb c x r) : p.IsUnb c := by
  refine ⟨⟨x, h.feas⟩, fun v => ?_⟩
  have hn := h.neg
  by_cases hv : dotN p.n c x < v
  · exact ⟨x, h.feas, hv⟩
  · have hd : 0 < - dotN p.n c r := by grind
    have hq : 0 ≤ (dotN p.n c x - v) / (- dotN p.n c r) := Tab.div_nonneg (by grind) hd
    refine ⟨_, h.feas.move h.ray (k := (dotN p.n c x - v) / (- dotN p.n c r) + 1) (by grind), ?_⟩
    rw [dotN_add, dotN_smul]
    have e : (dotN p.n c x - v) / (- dotN p.n c r) * (- dotN p.n c r) = dotN p.n c x - v := by grind
    grind
theorem opt_unb {c : Nat → Rat} {v : Rat} (h : p.IsOpt c v) (k : p.IsUnb c) : False := by
  obtain ⟨x, hx, hlt⟩ := k.2 v
  have := h.2 x hx
  grind
theorem opt_opt {c : Nat → Rat} {v w : Rat} (h : p.IsOpt c v) (k : p.IsOpt c w) : v = w := by
  obtain ⟨⟨x, hx, rfl⟩, h2⟩ := h
  obtain ⟨⟨y, hy, rfl⟩, k2⟩ := k
  have h3 := h2 y hy
  have h4 := k2 x hx
  grind
end LP
/-- A function's value at a column that there may be. -/
def optv (f : Nat → Rat) : Option Nat → Rat
  | some k => f k
  | none => 0
/-- How the columns of a tableau with the matrix A stand for a program: w columns, the first u of which are no artificial ones. -/
structure Lay (p : LP) (A : Nat → Nat → Rat) (w u : Nat) (plus : Nat → Nat) (minus slack : Nat → Option Nat) (unit : Nat → Nat) (sg : Nat → Rat) : Prop where
  valid : p.Valid
  uw : u ≤ w
  sg1 : ∀ i, i < p.m → sg i = 1 ∨ sg i = -1
  rhs : ∀ i, i < p.m → A i w = p.b i * sg i ∧ 0 ≤ A i w
  pl : ∀ j, j < p.n → plus j < u ∧ ∀ i, i < p.m → A i (plus j) = p.a i j * sg i
  mi : ∀ j, j < p.n → (p.free j = false → minus j = none) ∧ ∀ k, minus j = some k → k < u ∧ ∀ i, i < p.m → A i k = - (p.a i j * sg i)
  mif : ∀ j, j < p.n → p.free j = true → ∃ k, minus j = some k
  sl : ∀ i, i < p.m → (p.rel i = 2 → slack i = none) ∧ (p.rel i ≠ 2 → ∃ k, slack i = some k) ∧ ∀ k, slack i = some k → k < u ∧ ∀ q, q < p.m → A q k = if q = i then (if p.rel i = 1 then sg i else - sg i) else 0
  un : ∀ i, i < p.m → unit i < w ∧ ∀ q, q < p.m → A q (unit i) = if q = i then 1 else 0
  sum : ∀ f, sumN u f = sumN p.n (fun j => f (plus j) + optv f (minus j)) + sumN p.m (fun i => optv f (slack i))
namespace Lay
variable {p : LP} {A : Nat → Nat → Rat} {w u : Nat} {plus : Nat → Nat} {minus slack : Nat → Option Nat} {unit : Nat → Nat} {sg : Nat → Rat}
theorem sumN_low {u w : Nat} (h : u ≤ w) (f : Nat → Rat) (h0 : ∀ j, u ≤ j → j < w → f j = 0) : sumN w f = sumN u f := by
  induction w with
  | zero => obtain rfl : u = 0 := by omega
            rfl
  | succ w ih =>
    by_cases e : u = w + 1
    · rw [e]
    · rw [sumN_succ, ih (by omega) (fun j h1 h2 => h0 j h1 (by omega)), h0 w (by omega) (by omega)]; grind
/-- The program's vector of a vector over the columns. -/
def vec (plus : Nat → Nat) (minus : Nat → Option Nat) (z : Nat → Rat) (j : Nat) : Rat := z (plus j) - optv z (minus j)
theorem meets (L : Lay p A w u plus minus slack unit sg) {z : Nat → Rat} {t : Rat} (hs : ∀ i, i < p.m → sumN (w + 1) (fun j => A i j * z j) = 0) (hw : z w = - t)
    (hn : ∀ j, j < u → 0 ≤ z j) (ha : ∀ j, u ≤ j → j < w → z j = 0) : p.Meets t (vec plus minus z) := by
  refine ⟨fun j hj hf => ?_, fun i hi => ?_⟩
  · unfold vec
    rw [(L.mi j hj).1 hf]
    have := hn _ (L.pl j hj).1
    simp only [optv]; grind
  · have h1 := hs i hi
    rw [sumN_succ, hw, sumN_low L.uw _ (fun j h1 h2 => by rw [ha j h1 h2]; grind), L.sum] at h1
    have h2 : sumN p.n (fun j => A i (plus j) * z (plus j) + optv (fun k => A i k * z k) (minus j)) = dotN p.n (p.a i) (vec plus minus z) * sg i := by
      unfold dotN
      rw [← sumN_mul']
      refine sumN_congr fun j hj => ?_
      rw [(L.pl j hj).2 i hi]
      unfold vec
      cases hm : minus j with
      | none => simp only [optv]; grind
      | some k =>
        have := ((L.mi j hj).2 k hm).2 i hi
        simp only [optv, this]; grind
    rw [h2] at h1
    have h3 : sumN p.m (fun q => optv (fun k => A i k * z k) (slack q)) = optv (fun k => A i k * z k) (slack i) := by
      refine sumN_single hi _ fun q hq hne => ?_
      cases hm : slack q with
      | none => rfl
      | some k =>
        have := ((L.sl q hq).2.2 k hm).2 i hi
        rw [if_neg (fun e => hne e.symm)] at this
        simp only [optv, this]; grind
    rw [h3, (L.rhs i hi).1] at h1
    have hsg := L.sg1 i hi
    have hsl := L.sl i hi
    have key : ∀ s : Rat, dotN p.n (p.a i) (vec plus minus z) * sg i + s * sg i + p.b i * sg i * -t = 0 → dotN p.n (p.a i) (vec plus minus z) - p.b i * t = - s := by
      intro s hs
      rcases hsg with e | e <;> rw [e] at hs <;> grind
    rcases L.valid i hi with e | e | e
    · obtain ⟨k, hk⟩ := hsl.2.1 (by omega)
      have h4 := hsl.2.2 k hk
      have h5 := h4.2 i hi
      rw [if_pos rfl, if_pos e] at h5
      have h6 := hn k h4.1
      rw [hk] at h1
      simp only [optv, h5] at h1
      have h7 := key (z k) (by grind)
      exact ⟨fun _ => by grind, fun e' => by omega, fun e' => by omega⟩
    · rw [hsl.1 e] at h1
      simp only [optv] at h1
      have h7 := key 0 (by grind)
      exact ⟨fun e' => by omega, fun _ => by grind, fun e' => by omega⟩
    · obtain ⟨k, hk⟩ := hsl.2.1 (by omega)
      have h4 := hsl.2.2 k hk
      have h5 := h4.2 i hi
      rw [if_pos rfl, if_neg (by omega)] at h5
      have h6 := hn k h4.1
      rw [hk] at h1
      simp only [optv, h5] at h1
      have h7 := key (- z k) (by grind)
      exact ⟨fun e' => by omega, fun e' => by omega, fun _ => by grind⟩
/-- The costs c0 with multiples of the rows taken off. -/
def Off (A : Nat → Nat → Rat) (m w : Nat) (c0 c : Nat → Rat) : Prop := ∃ l : Nat → Rat, ∀ j, j ≤ w → c j = c0 j - sumN m (fun k => l k * A k j)
section
variable (L : Lay p A w u plus minus slack unit sg) {c0 c : Nat → Rat} (ho : Off A p.m w c0 c)
include L ho
/-- The multipliers that a row of costs tells. -/
theorem dual_sums : (∀ j, j < p.n → p.colsum (fun i => sg i * (c0 (unit i) - c (unit i))) j = c0 (plus j) - c (plus j) ∧ ∀ k, minus j = some k → p.colsum (fun i => sg i * (c0 (unit i) - c (unit i))) j = c k - c0 k)
    ∧ p.bndsum (fun i => sg i * (c0 (unit i) - c (unit i))) = c0 w - c w ∧ (∀ i, i < p.m → ∀ k, slack i = some k → sg i * (c0 (unit i) - c (unit i)) = if p.rel i = 1 then c0 k - c k else c k - c0 k) := by
  obtain ⟨l, hl⟩ := ho
  have hu : ∀ i, i < p.m → c0 (unit i) - c (unit i) = l i := fun i hi => by
    have h1 := L.un i hi
    rw [hl _ (by omega), sumN_single hi (fun k => l k * A k (unit i)) (fun q hq hne => by rw [h1.2 q hq, if_neg hne]; grind), h1.2 i hi, if_pos rfl]; grind
  refine ⟨fun j hj => ⟨?_, fun k hk => ?_⟩, ?_, fun i hi k hk => ?_⟩
  · have h1 := L.pl j hj
    have hlt := L.uw
    rw [hl _ (by omega)]
    unfold LP.colsum
    rw [sumN_congr (g := fun k => l k * A k (plus j)) (fun i hi => by show sg i * (c0 (unit i) - c (unit i)) * _ = _; rw [hu i hi, h1.2 i hi]; grind)]
    grind
  · have h1 := (L.mi j hj).2 k hk
    have hlt := L.uw
    rw [hl _ (by omega)]
    unfold LP.colsum
    rw [sumN_congr (g := fun q => - (l q * A q k)) (fun i hi => by show sg i * (c0 (unit i) - c (unit i)) * _ = _; rw [hu i hi, h1.2 i hi]; grind), sumN_neg]
    grind
  · rw [hl _ (Nat.le_refl _)]
    unfold LP.bndsum
    rw [sumN_congr (g := fun k => l k * A k w) (fun i hi => by show sg i * (c0 (unit i) - c (unit i)) * _ = _; rw [hu i hi, (L.rhs i hi).1]; grind)]
    grind
  · have h1 := (L.sl i hi).2.2 k hk
    have hlt := L.uw
    rw [hu i hi, hl k (by omega), sumN_single hi (fun q => l q * A q k) (fun q hq hne => by rw [h1.2 q hq, if_neg hne]; grind), h1.2 i hi, if_pos rfl]
    split <;> grind
theorem signed_of (h0 : ∀ i, i < p.m → ∀ k, slack i = some k → c0 k = 0) (hn : ∀ j, j < u → 0 ≤ c j) : p.Signed (fun i => sg i * (c0 (unit i) - c (unit i))) := fun i hi => by
  have h1 := (dual_sums L ho).2.2 i hi
  refine ⟨fun e => ?_, fun e => ?_⟩
  · obtain ⟨k, hk⟩ := (L.sl i hi).2.1 (by omega)
    have h2 := h1 k hk
    have h3 := hn k ((L.sl i hi).2.2 k hk).1
    rw [if_neg (by omega), h0 i hi k hk] at h2
    simp only [h2]; grind
  · obtain ⟨k, hk⟩ := (L.sl i hi).2.1 (by omega)
    have h2 := h1 k hk
    have h3 := hn k ((L.sl i hi).2.2 k hk).1
    rw [if_pos e, h0 i hi k hk] at h2
    simp only [h2]; grind
/-- No feasible vector. -/
theorem cert_inf (h0 : ∀ j, j < u → c0 j = 0) (hw : c0 w = 0) (hn : ∀ j, j < u → 0 ≤ c j) (hneg : c w < 0) : p.CertInf (fun i => sg i * (c0 (unit i) - c (unit i))) := by
  have hd := dual_sums L ho
  refine ⟨signed_of L ho (fun i hi k hk => h0 k ((L.sl i hi).2.2 k hk).1) hn, fun j hj => ⟨?_, fun hf => ?_⟩, ?_⟩
  · have h1 := L.pl j hj
    rw [(hd.1 j hj).1, h0 _ h1.1]
    have := hn _ h1.1
    grind
  · obtain ⟨k, hk⟩ := L.mif j hj hf
    have h1 := (L.mi j hj).2 k hk
    rw [(hd.1 j hj).2 k hk, h0 k h1.1]
    have := hn _ h1.1
    grind
  · rw [hd.2.1, hw]; grind
end
end Lay
end Lp
/- What the phases of the simplex method tell. -/
namespace Lp
namespace Tab
/-- The tableau's rows stand for those of the matrix A. -/
structure Rows (A : Nat → Nat → Rat) (m' w : Nat) (T : Tab) : Prop where
  m : T.m = m'
  n : T.n = w
  mul : ∃ R : Nat → Nat → Rat, ∀ i, i < m' → ∀ j, j ≤ w → T.A i j = sumN m' (fun k => R i k * A k j)
  sol : ∀ x, T.Sol x ↔ ∀ i, i < m' → sumN (w + 1) (fun j => A i j * x j) = 0
section
variable {A : Nat → Nat → Rat} {m w : Nat} {T : Tab}
theorem rows_self (hA : ∀ i j, T.A i j = A i j) (hm : T.m = m) (hn : T.n = w) : Rows A m w T := by
  refine ⟨hm, hn, ⟨fun i k => if k = i then 1 else 0, fun i hi j _ => ?_⟩, fun x => ?_⟩
  · rw [sumN_single hi (fun k => (if k = i then 1 else 0) * A k j) (fun q _ hne => by rw [if_neg hne]; grind), if_pos rfl, hA]; grind
  · unfold Sol
    rw [hm, hn]
    constructor
    · intro h i hi
      rw [← h i hi]
      exact sumN_congr fun j _ => by rw [hA]
    · intro h i hi
      rw [← h i hi]
      exact sumN_congr fun j _ => by rw [hA]
theorem Rows.pivot (h : Rows A m w T) {r s : Nat} (hr : r < m) (hp : T.A r s ≠ 0) : Rows A m w (T.pivot r s) := by
  obtain ⟨R, hR⟩ := h.mul
  refine ⟨h.m, h.n, ⟨fun i k => if i = r then R r k / T.A r s else R i k - T.A i s * (R r k / T.A r s), fun i hi j hj => ?_⟩, fun x => ?_⟩
  · have e1 : sumN m (fun k => R r k / T.A r s * A k j) = T.A r j / T.A r s := by
      rw [hR r hr j hj, Rat.div_def, ← sumN_mul']
      exact sumN_congr fun k _ => by grind
    by_cases e : i = r
    · simp only [Tab.pivot, if_pos e]
      exact e1.symm
    · simp only [Tab.pivot, if_neg e]
      rw [← e1, hR i hi j hj, ← sumN_mul, ← sumN_sub]
      exact sumN_congr fun k _ => by grind
  · rw [sol_pivot (by rw [h.m]; exact hr) hp, h.sol]
theorem Rows.off (h : Rows A m w T) (c0 f : Nat → Rat) {c : Nat → Rat} (hc : ∀ j, j ≤ w → c j = c0 j - sumN m (fun i => f i * T.A i j)) : Lay.Off A m w c0 c := by
  obtain ⟨R, hR⟩ := h.mul
  refine ⟨fun k => sumN m (fun i => f i * R i k), fun j hj => ?_⟩
  rw [hc j hj]
  congr 1
  rw [sumN_congr (g := fun i => sumN m (fun k => f i * R i k * A k j)) (fun i hi => by rw [hR i hi j hj, ← sumN_mul]; exact sumN_congr fun k _ => by grind), sumN_comm]
  exact sumN_congr fun k _ => sumN_mul' _ _ _
theorem Rows.offp (h : Rows A m w T) {c0 : Nat → Rat} (ho : Lay.Off A m w c0 T.c) {r s : Nat} (hr : r < m) : Lay.Off A m w c0 (T.pivot r s).c := by
  obtain ⟨R, hR⟩ := h.mul
  obtain ⟨l, hl⟩ := ho
  refine ⟨fun k => l k + T.c s * (R r k / T.A r s), fun j hj => ?_⟩
  show T.c j - T.c s * (T.A r j / T.A r s) = _
  have e1 : sumN m (fun k => R r k / T.A r s * A k j) = T.A r j / T.A r s := by
    rw [hR r hr j hj, Rat.div_def, ← sumN_mul']
    exact sumN_congr fun k _ => by grind
  have e2 : sumN m (fun k => (l k + T.c s * (R r k / T.A r s)) * A k j) = sumN m (fun k => l k * A k j) + T.c s * sumN m (fun k => R r k / T.A r s * A k j) := by
    rw [← sumN_mul, ← sumN_add]
    exact sumN_congr fun k _ => by grind
  rw [e2, e1, hl j hj]
  grind
theorem Rows.cost (h : Rows A m w T) {c0 : Nat → Rat} (ho : Lay.Off A m w c0 T.c) {x : Nat → Rat} (hx : T.Sol x) : T.cost x = sumN (w + 1) (fun j => c0 j * x j) := by
  obtain ⟨l, hl⟩ := ho
  unfold Tab.cost
  rw [h.n]
  have e1 : sumN (w + 1) (fun j => sumN m (fun k => l k * A k j) * x j) = 0 := by
    rw [sumN_congr (g := fun j => sumN m (fun k => l k * (A k j * x j))) (fun j _ => by rw [← sumN_mul']; exact sumN_congr fun k _ => by grind), sumN_comm]
    refine sumN_eq0 fun k hk => ?_
    rw [sumN_mul, (h.sol x).1 hx k hk]; grind
  rw [sumN_congr (g := fun j => c0 j * x j - sumN m (fun k => l k * A k j) * x j) (fun j hj => by rw [hl j (by omega)]; grind), sumN_sub, e1]
  grind
end
/-- The vector of the basis. -/
def pt (T : Tab) (j : Nat) : Rat := if j = T.n then -1 else sumN T.m (fun i => if T.B i = j then T.A i T.n else 0)
section
variable {T : Tab}
theorem pt_dir (h : T.WF) (j : Nat) : T.pt j = - T.dir T.n j := by
  unfold pt dir
  by_cases e : j = T.n
  · rw [if_pos e, if_pos e, sumN_eq0]
    · grind
    · intro i hi
      have := h.lt i hi
      rw [if_neg (by omega)]
  · rw [if_neg e, if_neg e]; grind
theorem pt_sol (h : T.WF) : T.Sol T.pt := fun i hi => by
  have := sol_dir h T.n (Nat.le_refl _) i hi
  rw [sumN_congr (g := fun j => - (T.A i j * T.dir T.n j)) (fun j _ => by rw [pt_dir h]; grind), sumN_neg, this]; grind
theorem pt_cost (h : T.WF) : T.cost T.pt = - T.c T.n := by
  have := cost_dir h T.n (Nat.le_refl _)
  unfold cost at this ⊢
  rw [sumN_congr (g := fun j => - (T.c j * T.dir T.n j)) (fun j _ => by rw [pt_dir h]; grind), sumN_neg, this]
theorem pt_basis (h : T.WF) {i : Nat} (hi : i < T.m) : T.pt (T.B i) = T.A i T.n := by
  have := h.lt i hi
  unfold pt
  rw [if_neg (by omega), sumN_single hi, if_pos rfl]
  intro k hk hne
  rw [if_neg (fun e => hne (h.inj hk hi e))]
theorem pt_nonneg (hf : T.Feas) {j : Nat} (hj : j < T.n) : 0 ≤ T.pt j := by
  unfold pt
  rw [if_neg (by omega)]
  refine sumN_nonneg fun i hi => ?_
  split
  · exact hf i hi
  · exact Rat.le_refl
theorem pt_zero {j : Nat} (hj : j < T.n) (h : ∀ i, i < T.m → T.B i = j → T.A i T.n = 0) : T.pt j = 0 := by
  unfold pt
  rw [if_neg (by omega)]
  refine sumN_eq0 fun i hi => ?_
  split
  · rename_i e; exact h i hi e
  · rfl
theorem dir_nonneg {s : Nat} (h : ∀ i, i < T.m → T.A i s ≤ 0) (j : Nat) : 0 ≤ T.dir s j := by
  unfold dir
  have h1 : 0 ≤ sumN T.m (fun i => - (if T.B i = j then T.A i s else 0)) := sumN_nonneg fun i hi => by
    split
    · have := h i hi; grind
    · grind
  rw [sumN_neg] at h1
  split <;> grind
theorem dir_last (h : T.WF) {s : Nat} (hs : s < T.n) : T.dir s T.n = 0 := by
  unfold dir
  rw [if_neg (by omega), sumN_eq0]
  · grind
  · intro i hi
    have := h.lt i hi
    rw [if_neg (by omega)]
theorem dir_art {s j : Nat} (hj : j ≠ s) (h : ∀ i, i < T.m → T.B i = j → T.A i s = 0) : T.dir s j = 0 := by
  unfold dir
  rw [if_neg hj, sumN_eq0]
  · grind
  · intro i hi
    split
    · rename_i e; exact h i hi e
    · rfl
end
/-- The artificial columns cost 1. -/
def pen (u w j : Nat) : Rat := if u ≤ j ∧ j < w then 1 else 0
theorem pen_nonneg (u w j : Nat) : 0 ≤ pen u w j := by
  unfold pen; split <;> grind
theorem pen_low {u w j : Nat} (h : j < u) : pen u w j = 0 := by
  unfold pen; rw [if_neg (by omega)]
theorem pen_last (u w : Nat) : pen u w w = 0 := by
  unfold pen; rw [if_neg (by omega)]
section
variable {A : Nat → Nat → Rat} {m w u : Nat} {T : Tab}
/-- The first phase is bounded. -/
theorem phase1_ray (hW : T.WF) (h : Rows A m w T) (ho : Lay.Off A m w (pen u w) T.c) {s : Nat} (hs : s < w) (hneg : T.c s < 0) (hA : ∀ i, i < T.m → T.A i s ≤ 0) : False := by
  have h1 := cost_dir hW s (by rw [h.n]; omega)
  rw [h.cost ho (sol_dir hW s (by rw [h.n]; omega))] at h1
  have h2 : 0 ≤ sumN (w + 1) (fun j => pen u w j * T.dir s j) := sumN_nonneg fun j _ => Rat.mul_nonneg (pen_nonneg u w j) (dir_nonneg hA j)
  grind
theorem sumN_term {n k : Nat} (f : Nat → Rat) (h : ∀ i, i < n → 0 ≤ f i) (hk : k < n) : f k ≤ sumN n f := by
  induction n with
  | zero => omega
  | succ n ih =>
    rw [sumN_succ]
    have h0 := h n (by omega)
    by_cases e : k = n
    · subst e
      have : 0 ≤ sumN k f := sumN_nonneg fun i hi => h i (by omega)
      grind
    · have := ih (fun i hi => h i (by omega)) (by omega)
      grind
/-- Behind a first phase whose value is not positive the artificial columns are 0. -/
theorem phase1_zero (hW : T.WF) (hF : T.Feas) (h : Rows A m w T) (ho : Lay.Off A m w (pen u w) T.c) (hv : 0 ≤ T.c w) : T.c w = 0 ∧ ∀ i, i < T.m → u ≤ T.B i → T.A i T.n = 0 := by
  have h1 := pt_cost hW
  rw [h.cost ho (pt_sol hW), h.n] at h1
  have h0 : ∀ j, j < w + 1 → 0 ≤ pen u w j * T.pt j := fun j hj => by
    by_cases e : j = w
    · subst e; rw [pen_last]; grind
    · exact Rat.mul_nonneg (pen_nonneg u w j) (pt_nonneg hF (by rw [h.n]; omega))
  have h2 := sumN_nonneg h0
  refine ⟨by grind, fun i hi hu => ?_⟩
  have hlt := hW.lt i hi
  have h3 := sumN_term _ h0 (k := T.B i) (by rw [h.n] at hlt; omega)
  have hlt' := hlt
  rw [h.n] at hlt'
  rw [pt_basis hW hi] at h3
  have e : pen u w (T.B i) = 1 := by unfold pen; rw [if_pos ⟨hu, hlt'⟩]
  rw [e] at h3
  have := hF i hi
  grind
end
/-- Artificial columns of the basis have the value 0, and the first k rows of theirs are 0. -/
structure Clean (u k : Nat) (T : Tab) : Prop where
  zero : ∀ i, i < T.m → u ≤ T.B i → T.A i T.n = 0
  row : ∀ i, i < k → i < T.m → u ≤ T.B i → ∀ j, j < u → T.A i j = 0
section
variable {u k : Nat} {T : Tab}
theorem Clean.start (h : ∀ i, i < T.m → u ≤ T.B i → T.A i T.n = 0) : Clean u 0 T := ⟨h, fun i hi => by omega⟩
theorem Clean.skip (h : Clean u k T) (hk : T.B k < u ∨ ∀ j, j < u → T.A k j = 0) : Clean u (k + 1) T := by
  refine ⟨h.zero, fun i hi hm hu => ?_⟩
  by_cases e : i = k
  · subst e
    rcases hk with hk | hk
    · omega
    · exact hk
  · exact h.row i (by omega) hm hu
theorem Clean.expel (h : Clean u k T) (hk : k < T.m) (hu : u ≤ T.B k) {s : Nat} (hs : s < u) : Clean u (k + 1) (T.pivot k s) := by
  have hz := h.zero k hk hu
  refine ⟨fun i hi hb => ?_, fun i hi hm hb j hj => ?_⟩
  · have hi' : i < T.m := hi
    simp only [Tab.pivot] at hb ⊢
    by_cases e : i = k
    · rw [if_pos e] at hb; omega
    · rw [if_neg e] at hb ⊢
      rw [h.zero i hi' hb, hz, Rat.div_def]; grind
  · have hm' : i < T.m := hm
    simp only [Tab.pivot] at hb ⊢
    by_cases e : i = k
    · rw [if_pos e] at hb; omega
    · rw [if_neg e] at hb ⊢
      rw [h.row i (by omega) hm' hb j hj, h.row i (by omega) hm' hb s hs]; grind
theorem Clean.feas (h : Clean u k T) (hF : T.Feas) (hk : k < T.m) (hu : u ≤ T.B k) (s : Nat) : (T.pivot k s).Feas := fun i hi => by
  have hi' : i < T.m := hi
  have hz := h.zero k hk hu
  have h1 := hF i hi'
  show 0 ≤ (if i = k then T.A k T.n / T.A k s else T.A i T.n - T.A i s * (T.A k T.n / T.A k s))
  rw [hz]
  split
  · rw [Rat.div_def]; grind
  · rw [Rat.div_def]; grind
theorem Clean.bland (h : Clean u T.m T) {r s : Nat} (hb : T.Bland u r s) : Clean u (T.pivot r s).m (T.pivot r s) := by
  have hr : T.B r < u := by
    false_or_by_contra
    have := h.row r hb.rm hb.rm (by omega) s hb.su
    have := hb.pos
    grind
  have hs := hb.su
  refine ⟨fun i hi hu => ?_, fun i _ hi hu j hj => ?_⟩
  · have hi' : i < T.m := hi
    simp only [Tab.pivot] at hu ⊢
    by_cases e : i = r
    · rw [if_pos e] at hu; omega
    · rw [if_neg e] at hu ⊢
      rw [h.zero i hi' hu, h.row i hi' hi' hu s hs]; grind
  · have hi' : i < T.m := hi
    simp only [Tab.pivot] at hu ⊢
    by_cases e : i = r
    · rw [if_pos e] at hu; omega
    · rw [if_neg e] at hu ⊢
      rw [h.row i hi' hi' hu j hj, h.row i hi' hi' hu s hs]; grind
end
/-- The costs of an objective over the columns. -/
structure Costs (p : LP) (w : Nat) (plus : Nat → Nat) (minus slack : Nat → Option Nat) (c c0 : Nat → Rat) : Prop where
  pl : ∀ j, j < p.n → c0 (plus j) = c j
  mi : ∀ j, j < p.n → ∀ k, minus j = some k → c0 k = - c j
  sl : ∀ i, i < p.m → ∀ k, slack i = some k → c0 k = 0
  last : c0 w = 0
section
variable {p : LP} {A : Nat → Nat → Rat} {w u : Nat} {plus : Nat → Nat} {minus slack : Nat → Option Nat} {unit : Nat → Nat} {sg c c0 : Nat → Rat} {T : Tab}
theorem dot_vec (L : Lay p A w u plus minus slack unit sg) (hc : Costs p w plus minus slack c c0) {z : Nat → Rat} (ha : ∀ j, u ≤ j → j < w → z j = 0) :
    sumN (w + 1) (fun j => c0 j * z j) = dotN p.n c (Lay.vec plus minus z) := by
  rw [sumN_succ, hc.last, Lay.sumN_low L.uw _ (fun j h1 h2 => by rw [ha j h1 h2]; grind), L.sum]
  have h1 : sumN p.m (fun i => optv (fun j => c0 j * z j) (slack i)) = 0 := sumN_eq0 fun i hi => by
    cases hs : slack i with
    | none => rfl
    | some k => simp only [optv]; rw [hc.sl i hi k hs]; grind
  rw [h1]
  unfold dotN Lay.vec
  have h2 : sumN p.n (fun j => c0 (plus j) * z (plus j) + optv (fun j => c0 j * z j) (minus j)) = sumN p.n (fun j => c j * (z (plus j) - optv z (minus j))) := sumN_congr fun j hj => by
    rw [hc.pl j hj]
    cases hm : minus j with
    | none => simp only [optv]; grind
    | some k => simp only [optv]; rw [hc.mi j hj k hm]; grind
  rw [h2]; grind
theorem pt_art (hC : Clean u T.m T) {j : Nat} (h1 : u ≤ j) (h2 : j < T.n) : T.pt j = 0 := pt_zero h2 fun i hi e => hC.zero i hi (by omega)
theorem fin_feas (L : Lay p A w u plus minus slack unit sg) (hW : T.WF) (hF : T.Feas) (h : Rows A p.m w T) (hC : Clean u T.m T) : p.Meets 1 (Lay.vec plus minus T.pt) := by
  have hu := L.uw
  refine L.meets ((h.sol _).1 (pt_sol hW)) ?_ (fun j hj => pt_nonneg hF (by rw [h.n]; omega)) (fun j h1 h2 => pt_art hC h1 (by rw [h.n]; omega))
  unfold pt
  rw [if_pos h.n.symm]
theorem fin_value (L : Lay p A w u plus minus slack unit sg) (hW : T.WF) (h : Rows A p.m w T) (hC : Clean u T.m T) (hc : Costs p w plus minus slack c c0) (ho : Lay.Off A p.m w c0 T.c) :
    dotN p.n c (Lay.vec plus minus T.pt) = - T.c w := by
  rw [← dot_vec L hc (fun j h1 h2 => pt_art hC h1 (by rw [h.n]; omega)), ← h.cost ho (pt_sol hW), pt_cost hW, h.n]
theorem fin_opt (L : Lay p A w u plus minus slack unit sg) (hW : T.WF) (hF : T.Feas) (h : Rows A p.m w T) (hC : Clean u T.m T) (hc : Costs p w plus minus slack c c0) (ho : Lay.Off A p.m w c0 T.c) (hn : ∀ j, j < u → 0 ≤ T.c j) :
    p.CertOpt c (Lay.vec plus minus T.pt) (fun i => sg i * (c0 (unit i) - T.c (unit i))) := by
  have hd := Lay.dual_sums L ho
  refine ⟨fin_feas L hW hF h hC, Lay.signed_of L ho (fun i hi k hk => hc.sl i hi k hk) hn, fun j hj => ⟨?_, fun hf => ?_⟩, ?_⟩
  · have h1 := L.pl j hj
    rw [(hd.1 j hj).1, hc.pl j hj]
    have := hn _ h1.1
    grind
  · obtain ⟨k, hk⟩ := L.mif j hj hf
    have h1 := (L.mi j hj).2 k hk
    rw [(hd.1 j hj).2 k hk, hc.mi j hj k hk]
    have := hn _ h1.1
    grind
  · rw [hd.2.1, hc.last, fin_value L hW h hC hc ho]; grind
theorem fin_unb (L : Lay p A w u plus minus slack unit sg) (hW : T.WF) (hF : T.Feas) (h : Rows A p.m w T) (hC : Clean u T.m T) (hc : Costs p w plus minus slack c c0) (ho : Lay.Off A p.m w c0 T.c) {s : Nat} (hs : s < u) (hneg : T.c s < 0)
    (hA : ∀ i, i < T.m → T.A i s ≤ 0) : p.CertUnb c (Lay.vec plus minus T.pt) (Lay.vec plus minus (T.dir s)) := by
  have hu := L.uw
  have hsn : s < T.n := by rw [h.n]; omega
  have ha : ∀ j, u ≤ j → j < w → T.dir s j = 0 := fun j h1 h2 => dir_art (by omega) fun i hi e => hC.row i hi hi (by omega) s hs
  refine ⟨fin_feas L hW hF h hC, L.meets ((h.sol _).1 (sol_dir hW s (by omega))) ?_ (fun j _ => dir_nonneg hA j) ha, ?_⟩
  · have := dir_last hW hsn
    rw [h.n] at this
    rw [this]; grind
  · rw [← dot_vec L hc ha, ← h.cost ho (sol_dir hW s (by omega)), cost_dir hW s (by omega)]
    exact hneg
end
end Tab
end Lp
/- Programs as lists, and what is to be decided of them. -/
namespace Lp
/-- A linear program as it is written down: which columns are free; the rows: coefficients, relation, bound. -/
structure Prg where
  free : List Bool
  rows : List (List Rat × Int × Rat)
def fn (l : List Rat) (j : Nat) : Rat := l.getD j 0
theorem fn_get {l : List Rat} {j : Nat} {q : Rat} (h : l[j]? = some q) : fn l j = q := by simp [fn, List.getD, h]
theorem fn_out {l : List Rat} {j : Nat} (h : l.length ≤ j) : fn l j = 0 := by simp [fn, List.getD, List.getElem?_eq_none h]
def Prg.row (p : Prg) (i : Nat) : List Rat × Int × Rat := p.rows.getD i ([], 0, 0)
theorem Prg.row_get {p : Prg} {i : Nat} {r : List Rat × Int × Rat} (h : p.rows[i]? = some r) : p.row i = r := by simp [Prg.row, List.getD, h]
def Prg.lp (p : Prg) : LP := ⟨p.free.length, p.rows.length, fun j => p.free.getD j false, fun i j => fn (p.row i).1 j, fun i => (p.row i).2.1, fun i => (p.row i).2.2⟩
theorem Prg.free_get {p : Prg} {j : Nat} {b : Bool} (h : p.free[j]? = some b) : p.lp.free j = b := by simp [Prg.lp, List.getD, h]
/-- A row of a program with n columns is well formed. -/
def RowOk (n : Nat) (r : List Rat × Int × Rat) : Prop := r.1.length = n ∧ (r.2.1 = 1 ∨ r.2.1 = 2 ∨ r.2.1 = 3)
structure Prg.Ok (p : Prg) : Prop where
  cols : p.free.length ≤ 400
  rows : p.rows.length ≤ 800
  row : ∀ (i : Nat) (r : List Rat × Int × Rat), p.rows[i]? = some r → RowOk p.free.length r
theorem Prg.Ok.valid {p : Prg} (h : p.Ok) : p.lp.Valid := fun i hi => by
  have hi' : i < p.rows.length := hi
  have := (h.row i _ (List.getElem?_eq_getElem hi')).2
  show (p.row i).2.1 = 1 ∨ (p.row i).2.1 = 2 ∨ (p.row i).2.1 = 3
  rwa [Prg.row_get (List.getElem?_eq_getElem hi')]
structure PFeas (p : Prg) (x : List Rat) : Prop where
  ok : p.Ok
  len : x.length = p.free.length
  meets : p.lp.Meets 1 (fn x)
structure ChkOpt (p : Prg) (c x y : List Rat) : Prop where
  feas : PFeas p x
  clen : c.length = p.free.length
  ylen : y.length = p.rows.length
  cert : p.lp.CertOpt (fn c) (fn x) (fn y)
structure ChkInf (p : Prg) (y : List Rat) : Prop where
  ok : p.Ok
  ylen : y.length = p.rows.length
  cert : p.lp.CertInf (fn y)
structure ChkUnb (p : Prg) (c x r : List Rat) : Prop where
  feas : PFeas p x
  clen : c.length = p.free.length
  rlen : r.length = p.free.length
  cert : p.lp.CertUnb (fn c) (fn x) (fn r)
/-- A result: status, value, vector, multipliers, ray. -/
structure Soln where
  status : Int
  value : Rat
  x : List Rat
  dual : List Rat
  ray : List Rat
def Chk (p : Prg) (c : List Rat) (s : Soln) : Prop :=
  (s.status = 1 ∧ s.ray = [] ∧ ChkOpt p c s.x s.dual ∧ s.value = dotN p.free.length (fn c) (fn s.x)) ∨
  (s.status = 2 ∧ s.value = 0 ∧ s.x = [] ∧ s.ray = [] ∧ c.length = p.free.length ∧ ChkInf p s.dual) ∨
  (s.status = 3 ∧ s.value = 0 ∧ s.dual = [] ∧ ChkUnb p c s.x s.ray)
theorem Chk.sem {p : Prg} {c : List Rat} {s : Soln} (h : Chk p c s) : (s.status = 1 ∧ p.lp.IsOpt (fn c) s.value) ∨ (s.status = 2 ∧ p.lp.IsInf ∧ s.value = 0) ∨ (s.status = 3 ∧ p.lp.IsUnb (fn c) ∧ s.value = 0) := by
  rcases h with ⟨h1, _, h2, h3⟩ | ⟨h1, h2, _, _, _, h3⟩ | ⟨h1, h2, _, h3⟩
  · exact .inl ⟨h1, by rw [h3]; exact h2.cert.isOpt h2.feas.ok.valid⟩
  · exact .inr (.inl ⟨h1, h3.cert.isInf h3.ok.valid, h2⟩)
  · exact .inr (.inr ⟨h1, h3.cert.isUnb, h2⟩)
theorem Chk.at1 {p : Prg} {c : List Rat} {S : Soln} (h : Chk p c S) (e : S.status = 1) : S.ray = [] ∧ ChkOpt p c S.x S.dual ∧ S.value = dotN p.free.length (fn c) (fn S.x) := by
  rcases h with ⟨_, h⟩ | ⟨h1, _⟩ | ⟨h1, _⟩
  · exact h
  · omega
  · omega
theorem Chk.at2 {p : Prg} {c : List Rat} {S : Soln} (h : Chk p c S) (e : S.status = 2) : S.value = 0 ∧ S.x = [] ∧ S.ray = [] ∧ c.length = p.free.length ∧ ChkInf p S.dual := by
  rcases h with ⟨h1, _⟩ | ⟨_, h⟩ | ⟨h1, _⟩
  · omega
  · exact h
  · omega
theorem Chk.at3 {p : Prg} {c : List Rat} {S : Soln} (h : Chk p c S) (e : S.status = 3) : S.value = 0 ∧ S.dual = [] ∧ ChkUnb p c S.x S.ray := by
  rcases h with ⟨h1, _⟩ | ⟨h1, _⟩ | ⟨_, h⟩
  · omega
  · omega
  · exact h
end Lp
