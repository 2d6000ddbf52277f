/- Walks over package simplex, simplex.go, part 2: stands, Value. -/
import Derived.Test.YtemchaglffchjaaA10
set_option linter.unusedVariables false
namespace Go.Eng
open Go.Proofs Num Lp
theorem stands_ok {H : Heap} {vs : List Value} {q : Rat} {rel : Int} (hv : NumV H vs q) (hN : (szQ q : Int) ≤ 1099511627776) (hr : rel = 1 ∨ rel = 2 ∨ rel = 3) :
  Fn Try.prog 97 #[.int .i64 rel, .agg vs.toArray] H (fun v H' => Heap.le H H' ∧ ∃ b, v = .bool b ∧ (b = true ↔ relOk rel q)) := by
 obtain ⟨n1, d1, b1, rfl⟩ := hv.cells; refine fn_intro (args := [_, _]) Try.func97 rfl rfl Try.ntmps97 rfl rfl fun w0 => ?_; refine vc_keep [0, 1] rfl ?_; refine vc_sr ?_; refine vco_box rfl rfl ?_; refine vr 1 ?_; refine vco_k [0, 3] ?_; refine vc_seq ?_; refine vc_sr ?_; refine vr 1 ?_; refine vco_k [3, 5] ?_; refine vc_block ?_; refine vc_sr ?_; refine vr 2 ?_; refine vco_k [3, 5, 6] ?_; refine vc_cond rfl (fun hb => ?_) (fun hb => ?_)
 ·
  have hb : rel = 1 := by simpa using hb
  refine vc_sr ?_; refine vr 1 ?_; refine vco_call rfl rfl (ssign_ok hv hN) ?_; rintro v1 H1 ⟨hl1, rfl⟩; refine vr 2 ?_; refine vco_k [4] ?_; refine vc_ret ⟨.inr rfl, _, .tmp rfl (.nil), ?_⟩; exact ⟨hl1, _, rfl, by simp only [decide_eq_true_eq, sgn_le]; unfold relOk; constructor <;> intro h9 <;> grind⟩
 ·
  have hb : ¬ rel = 1 := by simpa using hb
  refine vc_sr ?_; refine vr 2 ?_; refine vco_k [3, 11] ?_; refine vc_cond rfl (fun hb => ?_) (fun hb => ?_)
  ·
   have hb3 : rel = 3 := by simpa using hb
   refine vc_sr ?_; refine vr 1 ?_; refine vco_call rfl rfl (ssign_ok hv hN) ?_; rintro v1 H1 ⟨hl1, rfl⟩; refine vr 2 ?_; refine vco_k [4] ?_; refine vc_ret ⟨.inr rfl, _, .tmp rfl (.nil), ?_⟩; exact ⟨hl1, _, rfl, by simp only [decide_eq_true_eq, ge_iff_le, sgn_ge]; unfold relOk; constructor <;> intro h9 <;> grind⟩
  ·
   have hb3 : ¬ rel = 3 := by simpa using hb
   refine vc_skip ?_; refine vc_keep [3] rfl ?_; refine vc_sr ?_; refine vr 1 ?_; refine vco_call rfl rfl (ssign_ok hv hN) ?_; rintro v1 H1 ⟨hl1, rfl⟩; refine vr 2 ?_; refine vco_k [4] ?_; refine vc_ret ⟨.inr rfl, _, .tmp rfl (.nil), ?_⟩; exact ⟨hl1, _, rfl, by simp only [beq_iff_eq, sgn_eq]; unfold relOk; constructor <;> intro h9 <;> grind⟩
theorem satisfies_ok {H : Heap} {v xv : Value} {p : Prg} {x : List Rat} {t : Rat} {ts : List Value} {N M : Nat} (hp : ProgV N H v p) (hok : p.Ok) (hx : SlV NumV 3 H xv x) (hxl : x.length = p.free.length) (ht : NumV H ts t) (ht1 : szQ t ≤ 1) (hxM : ∀ q, q ∈ x → szQ q ≤ M) (hNM : N + 2 ≤ M) (hM : M ≤ 1300000000) :
  Fn Try.prog 78 #[v, xv, .agg ts.toArray] H (fun v H' => Heap.le H H' ∧ ∃ b, v = .bool b ∧ (b = true ↔ p.lp.Meets t (fn x))) := by
 obtain ⟨fv, rv0, rfl, hfv, hrv0⟩ := id hp
 obtain ⟨Af, cf, xf, rfl, hrF, hxF⟩ := hfv.one
 obtain ⟨Ar, cr, xr, rfl, hrR, hxR⟩ := hrv0.row
 obtain ⟨tn, td, tb1, rfl⟩ := ht.cells
 obtain ⟨Ax, cx, xx, rfl, hrX, hxX⟩ := hx.num
 rw [hxl] at hx ⊢
 have hn4 := hok.cols
 have hm8 := hok.rows; refine fn_intro (args := [_, _, _]) Try.func78 rfl rfl Try.ntmps78 rfl rfl fun w0 => ?_; refine vc_keep [0, 1, 2] rfl ?_; refine vc_sr ?_; refine vco_box rfl rfl ?_; refine vco_box rfl rfl ?_; refine vr 1 ?_; refine vco_k [1, 3, 5] ?_; refine vc_seq ?_; refine vc_sr ?_; refine vr 4 ?_; refine vco_k [1, 3, 5, 13, 14, 15] ?_; refine vc_block ?_; refine vc_loop1 (fun (i : Nat) => p.free.length - i) (fun (i : Nat) => put (put (put (put (put (put (emp) 1 (.val (.slice Ax p.free.length cx))) 3 (.box [.slice Af p.free.length cf, .slice Ar p.rows.length cr])) 5 (.box [.int .i64 tn, .int .i64 td, .pointer tb1])) 13 (.val (.slice Af p.free.length cf))) 14 (.val (.int .i64 (p.free.length : Int)))) 15 (.val (.int .i64 (i : Int)))) (fun (i : Nat) H' => Heap.le H H' ∧ (∀ j, j < i → p.lp.free j = false → 0 ≤ fn x j) ∧ i ≤ p.free.length) 0 (⟨.refl _, (fun j h => by omega), Nat.zero_le _⟩) sub_auto ?_; rintro i H1 ⟨hl1, hal, hi⟩; refine vc_sr ?_; refine vr 1 ?_; refine vco_k [1, 3, 5, 13, 14, 15, 16] ?_; refine vc_seq ?_; refine vc_cond rfl (fun hb => ?_) (fun hb => ?_)
 ·
  have hin : i < p.free.length := by simpa using hb
  obtain ⟨fb, hfb⟩ : ∃ fb, p.free[i]? = some fb := ⟨_, List.getElem?_eq_getElem hin⟩; obtain ⟨uf, huf, hufe⟩ := hxF i fb hfb
  cases hufe
  have hfr : p.lp.free i = fb := Prg.free_get hfb; obtain ⟨q, hqk⟩ : ∃ q, x[i]? = some q := ⟨_, List.getElem?_eq_getElem (by omega)⟩; obtain ⟨n1, d1, b1, hn1, hx1⟩ := hxX i q hqk; have hfq : fn x i = q := fn_get hqk; have hszq := hxM q (List.mem_of_getElem? hqk); refine vc_skip ?_; refine vc_keep [1, 3, 5, 13, 14, 15] rfl ?_; refine vc_seq ?_; refine vc_block ?_; refine vc_sr ?_; refine vr 1 ?_; refine vco_at tbOk rfl rfl rfl rfl rfl (hrF.le hl1) (by rw [Int.toNat_natCast]; exact huf) (by omega) (by omega) fun _ => ?_; refine vr 2 ?_; refine vco_k [1, 3, 5, 7, 8, 13, 14, 15] ?_
  cases fb
  ·
   skip
   refine vc_sr ?_; refine vr 5 ?_; refine vco_at_st (vs := [.int .i64 n1, .int .i64 d1, .pointer b1]) tbOk rfl rfl rfl rfl (hrX.le hl1) rfl (by decide) hx1 (by omega) (by omega) fun _ => ?_; refine vco_call rfl rfl (ssign_ok (hn1.le hl1) (by omega)) ?_; rintro v2 H2 ⟨hl2, rfl⟩; refine vr 2 ?_; refine vco_k [1, 3, 5, 13, 14, 15, 29] ?_; refine vc_cond rfl (fun hb => ?_) (fun hb => ?_)
   ·
    have hlt : fn x i < 0 := by rw [hfq]; exact sgn_lt.1 (by simpa using hb)
    refine vc_sr ?_; refine vr 1 ?_; refine vco_k [6] ?_; refine vc_ret ⟨.inr rfl, _, .tmp rfl (.nil), ?_⟩; exact ⟨hl1.trans hl2, false, rfl, ⟨(fun h => by cases h), (fun h => by have h9 := h.1 i hin hfr; grind)⟩⟩
   ·
    have hge : 0 ≤ fn x i := by rw [hfq]; exact sgn_ge.1 (by simpa using hb)
    refine vc_skip ?_; refine vc_keep [1, 3, 5, 13, 14, 15] rfl ?_; refine vc_region rfl ?_; refine vco_add rfl rfl ⟨by omega, by omega⟩ ?_; refine vr 1 ?_; refine vco_end ?_; exact ⟨i + 1, by omega, sub_auto, hl1.trans hl2, (fun j hj hf => by by_cases h9 : j < i; exact hal j h9 hf; (obtain rfl : j = i := by omega); exact hge), by omega⟩
  ·
   skip
   refine vc_sr ?_; refine vr 10 ?_; refine vco_k [1, 3, 5, 13, 14, 15, 29] ?_; refine vc_cond_f rfl ?_; refine vc_skip ?_; refine vc_keep [1, 3, 5, 13, 14, 15] rfl ?_; refine vc_region rfl ?_; refine vco_add rfl rfl ⟨by omega, by omega⟩ ?_; refine vr 1 ?_; refine vco_end ?_; exact ⟨i + 1, by omega, sub_auto, hl1, (fun j hj hf => by by_cases h9 : j < i; exact hal j h9 hf; (obtain rfl : j = i := by omega); rw [hfr] at hf; cases hf), by omega⟩
 ·
  have hb : p.free.length ≤ i := by simpa using hb
  obtain rfl : p.free.length = i := by omega
  refine vc_exit ?_; refine vc_keep [1, 3, 5] rfl ?_; refine vc_seq ?_; refine vc_sr ?_; refine vr 4 ?_; refine vco_k [1, 5, 32, 33, 34] ?_; refine vc_block ?_; refine vc_loop1 (fun (i : Nat) => p.rows.length - i) (fun (i : Nat) => put (put (put (put (put (emp) 1 (.val (.slice Ax p.free.length cx))) 5 (.box [.int .i64 tn, .int .i64 td, .pointer tb1])) 32 (.val (.slice Ar p.rows.length cr))) 33 (.val (.int .i64 (p.rows.length : Int)))) 34 (.val (.int .i64 (i : Int)))) (fun (i : Nat) H' => Heap.le H H' ∧ (∀ k, k < i → relOk (p.lp.rel k) (dotN p.lp.n (p.lp.a k) (fn x) - p.lp.b k * t)) ∧ i ≤ p.rows.length) 0 (⟨hl1, (fun j h => by omega), Nat.zero_le _⟩) sub_auto ?_; rintro i H2 ⟨hl2, hal2, hi2⟩; refine vc_sr ?_; refine vr 1 ?_; refine vco_k [1, 5, 32, 33, 34, 35] ?_; refine vc_seq ?_; refine vc_cond rfl (fun hb => ?_) (fun hb => ?_)
  ·
   have him : i < p.rows.length := by simpa using hb
   obtain ⟨r, hr⟩ : ∃ r, p.rows[i]? = some r := ⟨_, List.getElem?_eq_getElem him⟩; obtain ⟨A0, c0, f, A1, m1, c1, A2, m2, c2, hrp, hrx⟩ := hxR i r hr; have hbd : RawV H (.agg #[.bool f, .slice A1 m1 c1, .slice A2 m2 c2]) r.2.2 N := RowP.bound hrp; have hszb := hbd.size; have hro := hok.row i r hr; have hrl : r.1.length = p.free.length := hro.1; have hco : SlV (RatP N) 3 H (.slice A0 r.1.length c0) r.1 := RowP.coef hrp
   have hrM : ∀ q, q ∈ r.1 → szQ q ≤ M := fun q hq => by
    have h9 := RowP.size hrp q hq; omega
   have hrow : p.row i = r := Prg.row_get hr; refine vc_skip ?_; refine vc_keep [1, 5, 32, 33, 34] rfl ?_; refine vc_seq ?_; refine vc_block ?_; refine vc_sr ?_; refine vco_at_st (vs := [.slice A0 r.1.length c0, .int .i64 r.2.1, .bool f, .slice A1 m1 c1, .slice A2 m2 c2]) tbOk rfl rfl rfl rfl (hrR.le hl2) rfl (by decide) hrx (by omega) (by omega) fun _ => ?_; refine vco_alloc el33 rfl ?_; obtain ⟨ti, hti, htz⟩ := sz33; refine vco_bstore (.inl ⟨rfl, rfl⟩) rfl rfl rfl hti htz rfl rfl rfl ?_; refine vco_k [1, 5, 10, 32, 33, 34] ?_; refine vc_sd .drawB [0, 1, 3, 2, 4, 5, 6] follows (by kernel_rfl) ?_; refine vr 3 ?_; refine vco_callM rfl rfl (sload_ok (hbd.le hl2) (by omega)) (fun _ _ h => by first | exact h.le | exact h.1) ?_; rintro _ H3 ⟨hl3, vs3, rfl, hn3⟩; obtain ⟨n3, d3, b3, rfl⟩ := hn3.cells; refine vco_callM rfl rfl (smul_ok (N := M) hn3 ((ht.le hl2).le hl3) (by omega) (by omega) (by omega)) (fun _ _ h => by first | exact h.le | exact h.1) ?_; rintro _ H4 ⟨hl4, vs4, rfl, hn4b⟩; obtain ⟨n4, d4, b4, rfl⟩ := hn4b.cells; have hsz4 := szQ_mul r.2.2 t; refine vco_alloc el71 rfl ?_; obtain ⟨ti, hti, htz⟩ := sz71; refine vco_bstore (.inl ⟨rfl, rfl⟩) rfl rfl rfl hti htz rfl rfl rfl ?_; refine vco_k [1, 5, 10, 11, 32, 33, 34] ?_; refine vc_sd .drawB [0, 1, 2, 3, 5, 7, 4, 6, 8, 9, 10] follows (by kernel_rfl) ?_; refine vr 6 ?_; refine vco_callM rfl rfl (svector_ok (hco.le (ratUp N) ((hl2.trans hl3).trans hl4)) (by omega) (by omega)) (fun _ _ h => by first | exact h.le | exact h.1) ?_
   rintro v5 H5 ⟨hl5, hs5⟩; refine vco_callM rfl rfl (sdot_ok (s := M) hs5 (hx.le numUp (((hl2.trans hl3).trans hl4).trans hl5)) (by omega) hrM hxM (by rw [hro.1]; have h9 : ((p.free.length : Int) + 2) * (2 * M + 2) ≤ 402 * (2 * M + 2) := Int.mul_le_mul_of_nonneg_right (by omega) (by omega); omega)) (fun _ _ h => by first | exact h.le | exact h.1) ?_; rintro _ H6 ⟨hl6, vs6, rfl, hn6⟩; obtain ⟨n6, d6, b6, rfl⟩ := hn6.cells; have hsz6 := dot_sz (M := M) r.1.length (fn r.1) (fn x) (fun j hj => hrM _ (fn_mem hj)) (fun j hj => hxM _ (fn_mem (by omega))); have hsz6b : ((r.1.length * (2 * M + 2) + 1 : Nat) : Int) ≤ 1040000000801 := (by rw [hro.1]; have h9 : p.free.length * (2 * M + 2) ≤ 400 * (2 * M + 2) := Nat.mul_le_mul_right _ hn4; omega); refine vco_callM rfl rfl (ssub_ok (N := max (r.1.length * (2 * M + 2) + 1) (M + 1)) hn6 ((hn4b.le hl5).le hl6) (by omega) (by omega) (by omega)) (fun _ _ h => by first | exact h.le | exact h.1) ?_; rintro _ H7 ⟨hl7, vs7, rfl, hn7⟩; obtain ⟨n7, d7, b7, rfl⟩ := hn7.cells; refine vco_callM rfl rfl (stands_ok hn7 (by have h9 := szQ_sub (dotN r.1.length (fn r.1) (fn x)) (r.2.2 * t); omega) hro.2) (fun _ _ h => by first | exact h.le | exact h.1) ?_; rintro _ H8 ⟨hl8, b8, rfl, hb8⟩; have hl9 := (((((hl2.trans hl3).trans hl4).trans hl5).trans hl6).trans hl7).trans hl8
   have hst8 : relOk r.2.1 (dotN r.1.length (fn r.1) (fn x) - r.2.2 * t) ↔ relOk (p.lp.rel i) (dotN p.lp.n (p.lp.a i) (fn x) - p.lp.b i * t) := by show _ ↔ relOk (p.row i).2.1 (dotN p.free.length (fun j => fn (p.row i).1 j) (fn x) - (p.row i).2.2 * t); rw [hrow, hro.1]
   refine vr 1 ?_; refine vco_k [1, 5, 32, 33, 34, 53] ?_; refine vc_cond rfl (fun hb => ?_) (fun hb => ?_)
   ·
    have hst9 : ¬ relOk (p.lp.rel i) (dotN p.lp.n (p.lp.a i) (fn x) - p.lp.b i * t) := fun h => by have h9 := hb8.2 (hst8.2 h); rw [h9] at hb; simp at hb
    refine vc_sr ?_; refine vr 1 ?_; refine vco_k [6] ?_; refine vc_ret ⟨.inr rfl, _, .tmp rfl (.nil), ?_⟩; exact ⟨hl9, false, rfl, ⟨(fun h => by cases h), (fun h => absurd (h.2 i him) hst9)⟩⟩
   ·
    have hst9 : relOk (p.lp.rel i) (dotN p.lp.n (p.lp.a i) (fn x) - p.lp.b i * t) := hst8.1 (hb8.1 (by simpa using hb)); refine vc_skip ?_; refine vc_keep [1, 5, 32, 33, 34] rfl ?_; refine vc_region rfl ?_; refine vco_add rfl rfl ⟨by omega, by omega⟩ ?_; refine vr 1 ?_; refine vco_end ?_; exact ⟨i + 1, by omega, sub_auto, hl9, (fun k hk => by by_cases h9 : k < i; exact hal2 k h9; (obtain rfl : k = i := by omega); exact hst9), by omega⟩
  ·
   have hb : p.rows.length ≤ i := by simpa using hb
   refine vc_exit ?_; refine vc_keep [] rfl ?_; refine vc_sr ?_; refine vr 1 ?_; refine vco_k [6] ?_; refine vc_ret ⟨.inr rfl, _, .tmp rfl (.nil), ?_⟩; exact ⟨hl2, true, rfl, ⟨(fun _ => ⟨hal, fun k hk => hal2 k (Nat.lt_of_lt_of_le hk hb)⟩), fun _ => rfl⟩⟩
end Go.Eng
