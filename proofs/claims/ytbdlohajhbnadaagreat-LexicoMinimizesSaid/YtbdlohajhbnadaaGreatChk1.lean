/- Walks over package amortcostref22, part 1: Dot, Value, related, above, Feasible, signed, ColumnSum, BoundSum. -/
import Derived.Test.YtbdlohajhbnadaaGreatA10
import Derived.Test.YtbdlohajhbnadaaGreatVal2
set_option linter.unusedVariables false
namespace Go.Eng
open Go.Proofs Num Lp
theorem szc {n s N : Nat} (hn : n ≤ 1000) (hs : s ≤ N + 2) (hN : N ≤ 400000000) {k : Nat} (hk : k ≤ n) : ((k * (2 * s + 1) + 1 : Nat) : Int) ≤ 900000000000 := by
  have h1 : k * (2 * s + 1) ≤ 1000 * (2 * s + 1) := Nat.mul_le_mul_right _ (by omega)
  omega
theorem rDot_ok {H : Heap} {u v : Value} {l1 l2 : List Rat} {N : Nat} (hu : SlV (RatP N) 3 H u l1) (hv : SlV (RatP N) 3 H v l2) (hl : l1.length = l2.length) (hn : l1.length ≤ 1000) (hN : N ≤ 400000000) :
  Fn Tryz.prog 92 #[u, v] H (RetR H (dotN l1.length (fn l1) (fn l2))) := by
 have h1 := hu.rsize
 have h2 := hv.rsize
 obtain ⟨A, c, ys, rfl, hc, hr, hel⟩ := hu
 obtain ⟨A', c', ys', rfl, hc', hr', hel'⟩ := hv
 have hsum := sum_size (f := fn l1) (g := fn l2) (s := N + 2) (n := l1.length) (fun k hk => ⟨fn_size h1 hk, fn_size h2 (by omega)⟩)
 rw [← hl]; refine fn_intro (args := [_, _]) Tryz.func92 rfl rfl Tryz.ntmps92 rfl rfl fun w0 => ?_; refine vc_keep [0, 1] rfl ?_; refine vc_sr ?_; refine vco_alloc el42 rfl ?_; refine vco_k [0, 1, 4] ?_; refine vc_sr ?_; refine vco_call rfl rfl ((rFromInt_ok (n := 0) (by decide) (by decide)).rc) ?_; rintro _ H1 ⟨hl1, t1, rfl, hq1⟩; rw [show ((0 : Int) : Rat) = 0 from rfl] at hq1; refine vco_alloc el42 rfl ?_; obtain ⟨ti, hti, htz⟩ := sz42; refine vco_bstore (.inl ⟨rfl, rfl⟩) rfl rfl rfl hti htz rfl rfl rfl ?_; refine vco_k [0, 1, 4, 5] ?_; refine vc_seq ?_; refine vc_sr ?_; refine vr 1 ?_; refine vco_k [0, 1, 4, 5, 6] ?_; refine vc_block ?_; refine vc_loop2 (fun (i : Nat) (t : RC) => l1.length - i) (fun (i : Nat) (t : RC) => put (put (put (put (put (emp) 0 (.val (.slice A l1.length c))) 1 (.val ((.slice A' l1.length c')))) 4 (.box [.bool false, .slice none 0 0, .slice none 0 0])) 5 (.box [.bool t.f, .slice t.A1 t.m1 t.c1, .slice t.A2 t.m2 t.c2])) 6 (.val (.int .i64 (i : Int)))) (fun (i : Nat) (t : RC) H' => Heap.le H H' ∧ CanV H' t.v (dotN i (fn l1) (fn l2)) ∧ i ≤ l1.length) 0 t1 (⟨hl1, hq1, Nat.zero_le _⟩) sub_auto ?_; rintro i t H2 ⟨hl2, hq2, hi⟩; refine vc_seq ?_; refine vc_sr ?_; refine vr 5 ?_; refine vco_min rfl rfl ?_; rw [show (if ((l1.length : Nat) : Int) < ((l1.length : Nat) : Int) then ((l1.length : Nat) : Int) else ((l1.length : Nat) : Int)) = ((l1.length : Nat) : Int) from if_neg (by omega)]; refine vr 1 ?_; refine vco_k [0, 1, 4, 5, 6, 14] ?_
 refine vc_cond rfl (fun hb => ?_) (fun hb => ?_)
 ·
  have him : i < l1.length := by simpa using hb
  obtain ⟨q, hqk⟩ : ∃ q, l1[i]? = some q := ⟨_, List.getElem?_eq_getElem him⟩; obtain ⟨q2, hqk2⟩ : ∃ q, l2[i]? = some q := ⟨_, List.getElem?_eq_getElem (by omega)⟩; obtain ⟨g5, B1, k1, e1, B2, k2, e2, hsg5, hraw5, hqx⟩ := SlV.seg3 hel hqk; obtain ⟨g6, D1, n1, d1, D2, n2, d2, hsg6, hraw6, hqx2⟩ := SlV.seg3 hel' hqk2; have hf1 := fn_get hqk; have hf2 := fn_get hqk2; have hz1 := hsum i hi; have hz2 := szc (s := N + 2) hn (Nat.le_refl _) hN hi; have hz3 := szQ_mul q q2; have hz4 := hraw5.size; have hz5 := hraw6.size; refine vc_skip ?_; refine vc_keep [0, 1, 4, 5, 6] rfl ?_; refine vc_seq ?_; refine vc_block ?_; refine vc_draw .drawB [0, 1, 2, 3, 4, 5, 6, 7, 8, 9, 10, 11] follows (by kernel_rfl) ?_; refine vr 3 ?_; refine vco_at_st (vs := [.bool g5, .slice B1 k1 e1, .slice B2 k2 e2]) tbOk rfl rfl rfl rfl (hr.le hl2) rfl (by decide) hqx (by omega) (by omega) fun _ => ?_; refine vr 2 ?_; refine vco_at_st (vs := [.bool g6, .slice D1 n1 d1, .slice D2 n2 d2]) tbOk rfl rfl rfl rfl (hr'.le hl2) rfl (by decide) hqx2 (by omega) (by omega) fun _ => ?_; refine vco_callM rfl rfl ((rMul_ok (hraw5.le hl2) (hraw6.le hl2) (by omega)).rc) (fun _ _ h => by first | exact h.le | exact h.1) ?_; rintro _ H3 ⟨hl3, t3, rfl, hq3⟩; refine vco_callM rfl rfl ((rAdd_ok (N := 900000000000) (((CanV.raw hq2).mono (by unfold dotN; omega)).le hl3) ((CanV.raw hq3).mono (by omega)) (by decide)).rc) (fun _ _ h => by first | exact h.le | exact h.1) ?_; rintro _ H4 ⟨hl4, t4, rfl, hq4⟩; rw [← hf1, ← hf2, show dotN i (fn l1) (fn l2) + fn l1 i * fn l2 i = dotN (i + 1) (fn l1) (fn l2) from rfl] at hq4
  obtain ⟨ti, hti, htz⟩ := sz42; refine vco_bstore (.inl ⟨rfl, rfl⟩) rfl rfl rfl hti htz rfl rfl rfl ?_; refine vco_end ?_; refine vc_keep [0, 1, 4, 5, 6] rfl ?_; refine vc_region rfl ?_; refine vr 1 ?_; refine vco_add rfl rfl ⟨by omega, by omega⟩ ?_; refine vr 1 ?_; refine vco_end ?_; exact ⟨i + 1, t4, by omega, sub_auto, hl2.trans (hl3.trans hl4), hq4, by omega⟩
 ·
  have hb : l1.length ≤ i := by simpa using hb
  obtain rfl : i = l1.length := by omega
  refine vc_exit ?_; refine vc_keep [4, 5] rfl ?_; refine vc_sr ?_; refine vr 1 ?_; obtain ⟨ti, hti, htz⟩ := sz42; refine vco_bstore (.inl ⟨rfl, rfl⟩) rfl rfl rfl hti htz rfl rfl rfl ?_; refine vco_k [4] ?_; obtain ⟨ri0, rhi0, rhz0⟩ := sz42; refine vc_ret ⟨.inr rfl, _, .agg rfl Tryz.underlying42 rhi0 rhz0 (.nil), ?_⟩; exact ⟨hl2, t, rfl, hq2⟩
theorem rRelated_ok {H : Heap} {a b : RC} {p q : Rat} {rel : Int} {N : Nat} (ha : RawV H a.v p N) (hb : RawV H b.v q N) (hN : (N : Int) ≤ 1099511627776) (hr : rel = 1 ∨ rel = 2 ∨ rel = 3) :
  Fn Tryz.prog 91 #[a.v, .int .i64 rel, b.v] H (fun v H' => Heap.le H H' ∧ ∃ r, v = .bool r ∧ (r = true ↔ relOk rel (p - q))) := by
 refine fn_intro (args := [_, _, _]) Tryz.func91 rfl rfl Tryz.ntmps91 rfl rfl fun w0 => ?_; refine vc_keep [0, 1, 2] rfl ?_; refine vc_sr ?_; refine vco_box rfl rfl ?_; refine vco_box rfl rfl ?_; refine vr 1 ?_; refine vco_k [1, 3, 5] ?_; refine vc_sr ?_; refine vr 2 ?_; refine vco_call rfl rfl (rCmp_ok ha hb hN) ?_; rintro _ H1 ⟨hl1, rfl⟩; refine vr 1 ?_; refine vco_k [1, 7] ?_; refine vc_seq ?_; refine vc_sr ?_; refine vr 1 ?_; refine vco_k [7, 11] ?_; refine vc_block ?_; refine vc_sr ?_; refine vr 2 ?_; refine vco_k [7, 11, 12] ?_; refine vc_cond rfl (fun hb => ?_) (fun hb => ?_)
 ·
  have h1 : rel = 1 := by simpa using hb
  refine vc_sr ?_; refine vr 3 ?_; refine vco_k [6] ?_; refine vc_ret ⟨.inr rfl, _, .tmp rfl (.nil), ?_⟩; exact ⟨hl1, _, rfl, by subst h1; rw [decide_eq_true_iff, cmp_le]; exact ⟨fun h => ⟨fun _ => by grind, fun e => by omega, fun e => by omega⟩, fun h => by have := h.1 rfl; grind⟩⟩
 ·
  have h1 : ¬ rel = 1 := by simpa using hb
  refine vc_sr ?_; refine vr 2 ?_; refine vco_k [7, 16] ?_; refine vc_cond rfl (fun hb => ?_) (fun hb => ?_)
  ·
   have h2 : rel = 2 := by simpa using hb
   refine vc_sr ?_; refine vr 3 ?_; refine vco_k [6] ?_; refine vc_ret ⟨.inr rfl, _, .tmp rfl (.nil), ?_⟩; exact ⟨hl1, _, rfl, by subst h2; rw [beq_iff_eq, cmp_eq]; exact ⟨fun h => ⟨fun e => by omega, fun _ => by grind, fun e => by omega⟩, fun h => by have := h.2.1 rfl; grind⟩⟩
  ·
   have h2 : ¬ rel = 2 := by simpa using hb
   have h3 : rel = 3 := by omega
   refine vc_skip ?_; refine vc_keep [7] rfl ?_; refine vc_sr ?_; refine vr 3 ?_; refine vco_k [6] ?_; refine vc_ret ⟨.inr rfl, _, .tmp rfl (.nil), ?_⟩; exact ⟨hl1, _, rfl, by subst h3; rw [decide_eq_true_iff, ge_iff_le, cmp_ge]; exact ⟨fun h => ⟨fun e => by omega, fun e => by omega, fun _ => by grind⟩, fun h => by have := h.2.2 rfl; grind⟩⟩
theorem rAbove_ok {H : Heap} {v xv : Value} {p : Prg} {x : List Rat} {N : Nat} (hp : ProgV N H v p) (hx : SlV (RatP N) 3 H xv x) (hn : p.free.length ≤ 1000) (hxl : x.length = p.free.length) (hN : N ≤ 400000000) :
  Fn Tryz.prog 90 #[v, xv] H (fun v H' => Heap.le H H' ∧ ∃ b, v = .bool b ∧ (b = true ↔ ∀ j, j < p.lp.n → p.lp.free j = false → 0 ≤ fn x j)) := by
 obtain ⟨fv, rv0, rfl, hfv, hrv0⟩ := id hp
 obtain ⟨Af, cf, xf, rfl, hrF, hxF⟩ := hfv.one
 obtain ⟨Ar, cr, xr, rfl, hcr, hrR, hxR⟩ := hrv0
 obtain ⟨Ax, cx, xx, rfl, hcx, hrX, hxX⟩ := id hx
 have hxz := hx.rsize; refine fn_intro (args := [_, _]) Tryz.func90 rfl rfl Tryz.ntmps90 rfl rfl fun w0 => ?_; refine vc_keep [0, 1] rfl ?_; refine vc_sr ?_; refine vco_box rfl rfl ?_; refine vr 1 ?_; refine vco_k [1, 2] ?_; refine vc_seq ?_; refine vc_sr ?_; refine vr 4 ?_; refine vco_k [1, 2, 8, 9] ?_; refine vc_block ?_; refine vc_loop1 (fun (j : Nat) => p.free.length - j) (fun (j : Nat) => put (put (put (put (emp) 1 (.val (.slice Ax x.length cx))) 2 (.box [.slice Af p.free.length cf, .slice Ar p.rows.length cr])) 8 (.val (.int .i64 (p.free.length : Int)))) 9 (.val (.int .i64 (j : Int)))) (fun (j : Nat) H' => Heap.le H H' ∧ (∀ k, k < j → p.lp.free k = false → 0 ≤ fn x k) ∧ j ≤ p.free.length) 0 (⟨.refl _, (fun k h => by omega), Nat.zero_le _⟩) sub_auto ?_; rintro j H1 ⟨hl1, hal, hj⟩; refine vc_sr ?_; refine vr 1 ?_; refine vco_k [1, 2, 8, 9, 10] ?_; refine vc_seq ?_; refine vc_cond rfl (fun hb => ?_) (fun hb => ?_)
 ·
  have hjn : j < p.free.length := by simpa using hb
  obtain ⟨b, hbk⟩ : ∃ b, p.free[j]? = some b := ⟨_, List.getElem?_eq_getElem hjn⟩; obtain ⟨u, hu, hub⟩ := hxF j b hbk
  cases hub
  have hfb := Prg.free_get hbk; obtain ⟨q, hqk⟩ : ∃ q, x[j]? = some q := ⟨_, List.getElem?_eq_getElem (by omega)⟩; obtain ⟨g5, B1, k1, e1, B2, k2, e2, hsg5, hraw5, hqx⟩ := SlV.seg3 hxX hqk; have hfq := fn_get hqk; refine vc_skip ?_; refine vc_keep [1, 2, 8, 9] rfl ?_; refine vc_seq ?_; refine vc_block ?_; refine vc_sr ?_; refine vr 2 ?_; refine vco_k [1, 2, 5, 8, 9] ?_; refine vc_sr ?_; refine vr 3 ?_; refine vco_at tbOk rfl rfl rfl rfl rfl (hrF.le hl1) (by rw [Int.toNat_natCast]; exact hu) (by omega) (by omega) fun _ => ?_
  cases b
  ·
   skip
   refine vr 4 ?_; refine vco_at_st (vs := [.bool g5, .slice B1 k1 e1, .slice B2 k2 e2]) tbOk rfl rfl rfl rfl (hrX.le hl1) rfl (by decide) hqx (by omega) (by omega) fun _ => ?_; refine vco_call rfl rfl (rSign_ok (hraw5.le hl1) (by omega)) ?_; rintro _ H2 ⟨hl2, rfl⟩; refine vr 2 ?_; refine vco_k [1, 2, 8, 9, 25] ?_; refine vc_cond rfl (fun hb => ?_) (fun hb => ?_)
   ·
    have hlt : sgnQ q < 0 := by simpa using hb
    refine vc_sr ?_; refine vr 1 ?_; refine vco_k [4] ?_; refine vc_ret ⟨.inr rfl, _, .tmp rfl (.nil), ?_⟩; exact ⟨hl1.trans hl2, false, rfl, ⟨(fun h => by cases h), (fun h => by have h9 := h j hjn hfb; rw [hfq] at h9; have h8 := sgn_ge.2 h9; omega)⟩⟩
   ·
    have hge : 0 ≤ sgnQ q := by simpa using hb
    refine vc_skip ?_; refine vc_keep [1, 2, 8, 9] rfl ?_; refine vc_region rfl ?_; refine vco_add rfl rfl ⟨by omega, by omega⟩ ?_; refine vr 1 ?_; refine vco_end ?_; exact ⟨j + 1, by omega, sub_auto, hl1.trans hl2, (fun k hk hf => by by_cases h9 : k < j; exact hal k h9 hf; (obtain rfl : k = j := by omega); rw [hfq]; exact sgn_ge.1 hge), by omega⟩
  ·
   skip
   refine vr 9 ?_; refine vco_k [1, 2, 8, 9, 25] ?_; refine vc_cond_f rfl ?_; refine vc_skip ?_; refine vc_keep [1, 2, 8, 9] rfl ?_; refine vc_region rfl ?_; refine vco_add rfl rfl ⟨by omega, by omega⟩ ?_; refine vr 1 ?_; refine vco_end ?_; exact ⟨j + 1, by omega, sub_auto, hl1, (fun k hk hf => by by_cases h9 : k < j; exact hal k h9 hf; (obtain rfl : k = j := by omega); rw [hfb] at hf; cases hf), by omega⟩
 ·
  have hb : p.free.length ≤ j := by simpa using hb
  refine vc_exit ?_; refine vc_keep [] rfl ?_; refine vc_sr ?_; refine vr 1 ?_; refine vco_k [4] ?_; refine vc_ret ⟨.inr rfl, _, .tmp rfl (.nil), ?_⟩; exact ⟨hl1, true, rfl, ⟨(fun _ k hk => hal k (Nat.lt_of_lt_of_le hk hb)), fun _ => rfl⟩⟩
theorem rFeasible_ok {H : Heap} {v xv : Value} {p : Prg} {x : List Rat} {N : Nat} (hp : ProgV N H v p) (hx : SlV (RatP N) 3 H xv x) (hN : N ≤ 400000000) :
  Fn Tryz.prog 46 #[v, xv] H (fun v H' => Heap.le H H' ∧ ∃ b, v = .bool b ∧ (b = true ↔ PFeas p x)) := by
 obtain ⟨fv, rv0, rfl, hfv, hrv0⟩ := id hp
 obtain ⟨Af, cf, xf, rfl, hrF, hxF⟩ := hfv.one
 obtain ⟨Ar, cr, xr, rfl, hcr, hrR, hxR⟩ := hrv0
 obtain ⟨Ax, cx, xx, rfl, hcx, hrX, hxX⟩ := id hx
 have hxz := hx.rsize; refine fn_intro (args := [_, _]) Tryz.func46 rfl rfl Tryz.ntmps46 rfl rfl fun w0 => ?_; refine vc_keep [0, 1] rfl ?_; refine vc_sr ?_; refine vco_box rfl rfl ?_; refine vr 1 ?_; refine vco_k [1, 2] ?_; refine vc_seq ?_; refine vc_sr ?_; refine vr 1 ?_; refine vco_call rfl rfl (rValid_ok hp) ?_; rintro _ H1 ⟨e1, b1, rfl, hb1⟩; rw [e1]
 cases b1
 ·
  skip
  refine vr 15 ?_; refine vco_k [1, 2, 22] ?_; refine vc_cond_t rfl ?_; refine vc_sr ?_; refine vr 1 ?_; refine vco_k [4] ?_; refine vc_ret ⟨.inr rfl, _, .tmp rfl (.nil), ?_⟩; exact ⟨.refl _, false, rfl, ⟨(fun h => by cases h), (fun h => by have h9 := hb1.2 h.ok; cases h9)⟩⟩
 ·
  skip
  refine vr 7 ?_
  by_cases hxl : x.length = p.free.length
  ·
   skip
   have hok := hb1.1 rfl; have hn4 := hok.cols; have hm8 := hok.rows; refine vco_cmp false rfl rfl (cne_f (by omega)) ?_; refine vr 4 ?_; refine vco_call rfl rfl (rAbove_ok hp hx (by omega) hxl hN) ?_; rintro _ H2 ⟨hl2, b2, rfl, hb2⟩; refine vr 2 ?_; refine vco_k [1, 2, 22] ?_; refine vc_cond rfl (fun hb => ?_) (fun hb => ?_)
   ·
    have hb2f : b2 = false := by simpa using hb
    subst hb2f; refine vc_sr ?_; refine vr 1 ?_; refine vco_k [4] ?_; refine vc_ret ⟨.inr rfl, _, .tmp rfl (.nil), ?_⟩; exact ⟨hl2, false, rfl, ⟨(fun h => by cases h), (fun h => by have h9 := hb2.2 h.meets.1; cases h9)⟩⟩
   ·
    have hb2t : b2 = true := by simpa using hb
    subst hb2t; refine vc_skip ?_; refine vc_keep [1, 2] rfl ?_; refine vc_seq ?_; refine vc_sr ?_; refine vr 4 ?_; refine vco_k [1, 2, 25, 26] ?_; refine vc_block ?_; refine vc_loop1 (fun (i : Nat) => p.rows.length - i) (fun (i : Nat) => put (put (put (put (emp) 1 (.val (.slice Ax x.length cx))) 2 (.box [.slice Af p.free.length cf, .slice Ar p.rows.length cr])) 25 (.val (.int .i64 (p.rows.length : Int)))) 26 (.val (.int .i64 (i : Int)))) (fun (i : Nat) H' => Heap.le H H' ∧ (∀ k, k < i → relOk (p.lp.rel k) (dotN p.lp.n (p.lp.a k) (fn x) - p.lp.b k * 1)) ∧ i ≤ p.rows.length) 0 (⟨hl2, (fun k h => by omega), Nat.zero_le _⟩) sub_auto ?_; rintro i H3 ⟨hl3, hal, hi⟩; refine vc_sr ?_; refine vr 1 ?_; refine vco_k [1, 2, 25, 26, 27] ?_; refine vc_seq ?_; refine vc_cond rfl (fun hb => ?_) (fun hb => ?_)
    ·
     have him : i < p.rows.length := by simpa using hb
     obtain ⟨r, hr⟩ : ∃ r, p.rows[i]? = some r := ⟨_, List.getElem?_eq_getElem him⟩; obtain ⟨A0, c0, f, A1, m1, c1, A2, m2, c2, hsg, hsl, hraw, hrx⟩ := SlV.segR hxR hr; have hrow : p.row i = r := Prg.row_get hr; have hrn := hok.row i r hr; have hrn1 : r.1.length = p.free.length := hrn.1
     have hrel : p.lp.rel i = r.2.1 := by show (p.row i).2.1 = _; rw [hrow]
     have hdot : dotN p.lp.n (p.lp.a i) (fn x) = dotN r.1.length (fn r.1) (fn x) := by show dotN p.free.length (fun j => fn (p.row i).1 j) (fn x) = _; rw [hrow, hrn.1]
     have hbi : p.lp.b i * 1 = r.2.2 := by rw [Rat.mul_one]; show (p.row i).2.2 = _; rw [hrow]
     have hz1 := dot_sz (M := N + 2) r.1.length (fn r.1) (fn x) (fun j hj => hsl.rsize _ (fn_mem hj)) (fun j hj => hxz _ (fn_mem (by omega))); have hz2 : r.1.length * (2 * (N + 2) + 2) ≤ 1000 * (2 * (N + 2) + 2) := Nat.mul_le_mul_right _ (by omega); refine vc_skip ?_; refine vc_keep [1, 2, 25, 26] rfl ?_; refine vc_seq ?_; refine vc_block ?_; refine vc_sr ?_; refine vr 2 ?_; refine vco_k [1, 2, 5, 25, 26] ?_; refine vc_sd .drawB [0, 1, 2, 3, 4, 5, 6, 8, 9, 10, 11, 12, 13, 14, 15, 16, 17, 18, 19, 7, 20, 21] follows (by kernel_rfl) ?_; refine vr 3 ?_; refine vco_atf tbOk rfl rfl rfl rfl rfl rfl rfl (hrR.le hl3) (hrx 0 _ rfl) (by omega) (by omega) fun _ _ => ?_; refine vr 4 ?_; refine vco_atf tbOk rfl rfl rfl rfl rfl rfl rfl (hrR.le hl3) (hrx 1 _ rfl) (by omega) (by omega) fun _ _ => ?_; refine vr 3 ?_; refine vco_atf_st tbOk rfl rfl rfl rfl rfl rfl (hrR.le hl3) rfl (by decide) (row_b hrx) (by omega) (by omega) fun _ _ => ?_; refine vco_callM rfl rfl (rDot_ok (hsl.le (ratUp N) hl3) (hx.le (ratUp N) hl3) (by omega) (by omega) hN) (fun _ _ h => by first | exact h.le | exact h.1) ?_; rintro _ H4 ⟨hl4, t4, rfl, hq4⟩; refine vco_callM rfl rfl (rRelated_ok (a := t4) (b := ⟨f, A1, m1, c1, A2, m2, c2⟩) (N := 900000000000) ((CanV.raw hq4).mono (by omega)) (((hraw.mono (by omega)).le hl3).le hl4) (by decide) hrn.2) (fun _ _ h => by first | exact h.le | exact h.1) ?_; rintro _ H5 ⟨hl5, b5, rfl, hb5⟩; refine vr 1 ?_; refine vco_k [1, 2, 25, 26, 50] ?_
     refine vc_cond rfl (fun hb => ?_) (fun hb => ?_)
     ·
      have hbf : b5 = false := by simpa using hb
      subst hbf; refine vc_sr ?_; refine vr 1 ?_; refine vco_k [4] ?_; refine vc_ret ⟨.inr rfl, _, .tmp rfl (.nil), ?_⟩; exact ⟨hl3.trans (hl4.trans hl5), false, rfl, ⟨(fun h => by cases h), (fun h => by have h9 := h.meets.2 i him; rw [hrel, hdot, hbi] at h9; have h8 := hb5.2 h9; cases h8)⟩⟩
     ·
      have hbt : b5 = true := by simpa using hb
      refine vc_skip ?_; refine vc_keep [1, 2, 25, 26] rfl ?_; refine vc_region rfl ?_; refine vco_add rfl rfl ⟨by omega, by omega⟩ ?_; refine vr 1 ?_; refine vco_end ?_; exact ⟨i + 1, by omega, sub_auto, hl3.trans (hl4.trans hl5), (fun k hk => by by_cases h9 : k < i; exact hal k h9; (obtain rfl : k = i := by omega); rw [hrel, hdot, hbi]; exact hb5.1 hbt), by omega⟩
    ·
     have hb : p.rows.length ≤ i := by simpa using hb
     refine vc_exit ?_; refine vc_keep [] rfl ?_; refine vc_sr ?_; refine vr 1 ?_; refine vco_k [4] ?_; refine vc_ret ⟨.inr rfl, _, .tmp rfl (.nil), ?_⟩; exact ⟨hl3, true, rfl, ⟨(fun _ => ⟨hok, hxl, hb2.1 rfl, fun k hk => hal k (Nat.lt_of_lt_of_le hk hb)⟩), fun _ => rfl⟩⟩
  ·
   skip
   have hok := hb1.1 rfl; have hn4 := hok.cols; have hm8 := hok.rows; refine vco_cmp true rfl rfl (cne_t (by omega)) ?_; refine vr 7 ?_; refine vco_k [1, 2, 22] ?_; refine vc_cond_t rfl ?_; refine vc_sr ?_; refine vr 1 ?_; refine vco_k [4] ?_; refine vc_ret ⟨.inr rfl, _, .tmp rfl (.nil), ?_⟩; exact ⟨.refl _, false, rfl, ⟨(fun h => by cases h), (fun h => absurd h.len hxl)⟩⟩
theorem rSigned_ok {H : Heap} {v xv : Value} {p : Prg} {x : List Rat} {N : Nat} (hp : ProgV N H v p) (hx : SlV (RatP N) 3 H xv x) (hm : p.rows.length ≤ 1000) (hN : N ≤ 400000000) :
  Fn Tryz.prog 94 #[v, xv] H (fun v H' => Heap.le H H' ∧ ∃ b, v = .bool b ∧ (b = true ↔ x.length = p.rows.length ∧ p.lp.Signed (fn x))) := by
 obtain ⟨fv, rv0, rfl, hfv, hrv0⟩ := id hp
 obtain ⟨Af, cf, xf, rfl, hrF, hxF⟩ := hfv.one
 obtain ⟨Ar, cr, xr, rfl, hcr, hrR, hxR⟩ := hrv0
 obtain ⟨Ax, cx, xx, rfl, hcx, hrX, hxX⟩ := id hx
 have hxz := hx.rsize; refine fn_intro (args := [_, _]) Tryz.func94 rfl rfl Tryz.ntmps94 rfl rfl fun w0 => ?_; refine vc_keep [0, 1] rfl ?_; refine vc_sr ?_; refine vco_box rfl rfl ?_; refine vr 1 ?_; refine vco_k [1, 2] ?_; refine vc_seq ?_; refine vc_sr ?_; refine vr 6 ?_; refine vco_k [1, 2, 12] ?_; refine vc_cond rfl (fun hb => ?_) (fun hb => ?_)
 ·
  have hb : ¬ x.length = p.rows.length := by simpa [Int.natCast_inj] using hb
  refine vc_sr ?_; refine vr 1 ?_; refine vco_k [4] ?_; refine vc_ret ⟨.inr rfl, _, .tmp rfl (.nil), ?_⟩; exact ⟨.refl _, false, rfl, ⟨(fun h => by cases h), fun h => absurd h.1 hb⟩⟩
 ·
  have hxl : x.length = p.rows.length := by simpa [Int.natCast_inj] using hb
  refine vc_skip ?_; refine vc_keep [1, 2] rfl ?_; refine vc_seq ?_; refine vc_sr ?_; refine vr 4 ?_; refine vco_k [1, 2, 15, 16] ?_; refine vc_block ?_; refine vc_loop1 (fun (i : Nat) => p.rows.length - i) (fun (i : Nat) => put (put (put (put (emp) 1 (.val (.slice Ax x.length cx))) 2 (.box [.slice Af p.free.length cf, .slice Ar p.rows.length cr])) 15 (.val (.int .i64 (p.rows.length : Int)))) 16 (.val (.int .i64 (i : Int)))) (fun (i : Nat) H' => Heap.le H H' ∧ (∀ k, k < i → (p.lp.rel k = 3 → 0 ≤ fn x k) ∧ (p.lp.rel k = 1 → fn x k ≤ 0)) ∧ i ≤ p.rows.length) 0 (⟨.refl _, (fun k h => by omega), Nat.zero_le _⟩) sub_auto ?_; rintro i H1 ⟨hl1, hal, hi⟩; refine vc_sr ?_; refine vr 1 ?_; refine vco_k [1, 2, 15, 16, 17] ?_; refine vc_seq ?_; refine vc_cond rfl (fun hb => ?_) (fun hb => ?_)
  ·
   have him : i < p.rows.length := by simpa using hb
   obtain ⟨r, hr⟩ : ∃ r, p.rows[i]? = some r := ⟨_, List.getElem?_eq_getElem him⟩; obtain ⟨A0, c0, f, A1, m1, c1, A2, m2, c2, hsg, hsl, hraw, hrx⟩ := SlV.segR hxR hr; have hrow : p.row i = r := Prg.row_get hr; obtain ⟨q, hqk⟩ : ∃ q, x[i]? = some q := ⟨_, List.getElem?_eq_getElem (by omega)⟩; obtain ⟨g5, B1, k1, e1, B2, k2, e2, hsg5, hraw5, hqx⟩ := SlV.seg3 hxX hqk; have hfq := fn_get hqk
   have hrel : p.lp.rel i = r.2.1 := by show (p.row i).2.1 = _; rw [hrow]
   refine vc_skip ?_; refine vc_keep [1, 2, 15, 16] rfl ?_; refine vc_seq ?_; refine vc_block ?_; refine vc_sr ?_; refine vr 2 ?_; refine vco_k [1, 2, 5, 15, 16] ?_; refine vc_sr ?_; refine vr 2 ?_; refine vco_at_st (vs := [.bool g5, .slice B1 k1 e1, .slice B2 k2 e2]) tbOk rfl rfl rfl rfl (hrX.le hl1) rfl (by decide) hqx (by omega) (by omega) fun _ => ?_; refine vco_call rfl rfl (rSign_ok (hraw5.le hl1) (by omega)) ?_; rintro _ H2 ⟨hl2, rfl⟩; refine vr 1 ?_; refine vco_k [1, 2, 5, 6, 15, 16] ?_
   by_cases h3 : r.2.1 = 3
   ·
    skip
    by_cases hs : sgnQ q < 0
    ·
     skip
     refine vc_sr ?_; refine vr 3 ?_; refine vco_atf tbOk rfl rfl rfl rfl rfl rfl rfl (hrR.le (hl1.trans hl2)) (hrx 1 _ rfl) (by omega) (by omega) fun _ _ => ?_; refine vco_cmp true rfl rfl (ceq_t h3) ?_; refine vr 2 ?_; refine vco_cmp true rfl rfl (clt_t hs) ?_; refine vr 14 ?_; refine vco_k [1, 2, 15, 16, 47] ?_; refine vc_cond_t rfl ?_; refine vc_sr ?_; refine vr 1 ?_; refine vco_k [4] ?_; refine vc_ret ⟨.inr rfl, _, .tmp rfl (.nil), ?_⟩; exact ⟨hl1.trans hl2, false, rfl, ⟨(fun h => by cases h), (fun h => by have h9 := (h.2 i him).1 (by omega); rw [hfq] at h9; have h8 := sgn_ge.2 h9; omega)⟩⟩
    ·
     skip
     refine vc_sr ?_; refine vr 3 ?_; refine vco_atf tbOk rfl rfl rfl rfl rfl rfl rfl (hrR.le (hl1.trans hl2)) (hrx 1 _ rfl) (by omega) (by omega) fun _ _ => ?_; refine vco_cmp true rfl rfl (ceq_t h3) ?_; refine vr 2 ?_; refine vco_cmp false rfl rfl (clt_f (by omega)) ?_; refine vr 5 ?_; refine vco_atf tbOk rfl rfl rfl rfl rfl rfl rfl (hrR.le (hl1.trans hl2)) (hrx 1 _ rfl) (by omega) (by omega) fun _ _ => ?_; refine vco_cmp false rfl rfl (ceq_f (by omega)) ?_; refine vr 5 ?_; refine vco_k [1, 2, 15, 16, 47] ?_; refine vc_cond_f rfl ?_; refine vc_skip ?_; refine vc_keep [1, 2, 15, 16] rfl ?_; refine vc_region rfl ?_; refine vco_add rfl rfl ⟨by omega, by omega⟩ ?_; refine vr 1 ?_; refine vco_end ?_; exact ⟨i + 1, by omega, sub_auto, hl1.trans hl2, (fun k hk => by by_cases h9 : k < i; exact hal k h9; (obtain rfl : k = i := by omega); rw [hrel, hfq]; exact ⟨fun _ => sgn_ge.1 (by omega), fun e => by omega⟩), by omega⟩
   ·
    skip
    by_cases h1 : r.2.1 = 1
    ·
     skip
     by_cases hs : 0 < sgnQ q
     ·
      skip
      refine vc_sr ?_; refine vr 3 ?_; refine vco_atf tbOk rfl rfl rfl rfl rfl rfl rfl (hrR.le (hl1.trans hl2)) (hrx 1 _ rfl) (by omega) (by omega) fun _ _ => ?_; refine vco_cmp false rfl rfl (ceq_f h3) ?_; refine vr 8 ?_; refine vco_atf tbOk rfl rfl rfl rfl rfl rfl rfl (hrR.le (hl1.trans hl2)) (hrx 1 _ rfl) (by omega) (by omega) fun _ _ => ?_; refine vco_cmp true rfl rfl (ceq_t h1) ?_; refine vr 2 ?_; refine vco_cmp true rfl rfl (cgt_t hs) ?_; refine vr 2 ?_; refine vco_k [1, 2, 15, 16, 47] ?_; refine vc_cond_t rfl ?_; refine vc_sr ?_; refine vr 1 ?_; refine vco_k [4] ?_; refine vc_ret ⟨.inr rfl, _, .tmp rfl (.nil), ?_⟩; exact ⟨hl1.trans hl2, false, rfl, ⟨(fun h => by cases h), (fun h => by have h9 := (h.2 i him).2 (by omega); rw [hfq] at h9; have h8 := sgn_le.2 h9; omega)⟩⟩
     ·
      skip
      refine vc_sr ?_; refine vr 3 ?_; refine vco_atf tbOk rfl rfl rfl rfl rfl rfl rfl (hrR.le (hl1.trans hl2)) (hrx 1 _ rfl) (by omega) (by omega) fun _ _ => ?_; refine vco_cmp false rfl rfl (ceq_f h3) ?_; refine vr 8 ?_; refine vco_atf tbOk rfl rfl rfl rfl rfl rfl rfl (hrR.le (hl1.trans hl2)) (hrx 1 _ rfl) (by omega) (by omega) fun _ _ => ?_; refine vco_cmp true rfl rfl (ceq_t h1) ?_; refine vr 2 ?_; refine vco_cmp false rfl rfl (cgt_f (by omega)) ?_; refine vr 2 ?_; refine vco_k [1, 2, 15, 16, 47] ?_; refine vc_cond_f rfl ?_; refine vc_skip ?_; refine vc_keep [1, 2, 15, 16] rfl ?_; refine vc_region rfl ?_; refine vco_add rfl rfl ⟨by omega, by omega⟩ ?_; refine vr 1 ?_; refine vco_end ?_; exact ⟨i + 1, by omega, sub_auto, hl1.trans hl2, (fun k hk => by by_cases h9 : k < i; exact hal k h9; (obtain rfl : k = i := by omega); rw [hrel, hfq]; exact ⟨fun e => by omega, fun _ => sgn_le.1 (by omega)⟩), by omega⟩
    ·
     skip
     refine vc_sr ?_; refine vr 3 ?_; refine vco_atf tbOk rfl rfl rfl rfl rfl rfl rfl (hrR.le (hl1.trans hl2)) (hrx 1 _ rfl) (by omega) (by omega) fun _ _ => ?_; refine vco_cmp false rfl rfl (ceq_f h3) ?_; refine vr 8 ?_; refine vco_atf tbOk rfl rfl rfl rfl rfl rfl rfl (hrR.le (hl1.trans hl2)) (hrx 1 _ rfl) (by omega) (by omega) fun _ _ => ?_; refine vco_cmp false rfl rfl (ceq_f h1) ?_; refine vr 5 ?_; refine vco_k [1, 2, 15, 16, 47] ?_; refine vc_cond_f rfl ?_; refine vc_skip ?_; refine vc_keep [1, 2, 15, 16] rfl ?_; refine vc_region rfl ?_; refine vco_add rfl rfl ⟨by omega, by omega⟩ ?_; refine vr 1 ?_; refine vco_end ?_; exact ⟨i + 1, by omega, sub_auto, hl1.trans hl2, (fun k hk => by by_cases h9 : k < i; exact hal k h9; (obtain rfl : k = i := by omega); rw [hrel, hfq]; exact ⟨fun e => by omega, fun e => by omega⟩), by omega⟩
  ·
   have hb : p.rows.length ≤ i := by simpa using hb
   refine vc_exit ?_; refine vc_keep [] rfl ?_; refine vc_sr ?_; refine vr 1 ?_; refine vco_k [4] ?_; refine vc_ret ⟨.inr rfl, _, .tmp rfl (.nil), ?_⟩; exact ⟨hl1, true, rfl, ⟨(fun _ => ⟨hxl, fun k hk => hal k (Nat.lt_of_lt_of_le hk hb)⟩), fun _ => rfl⟩⟩
theorem rBoundSum_ok {H : Heap} {v xv : Value} {p : Prg} {x : List Rat} {N : Nat} (hp : ProgV N H v p) (hx : SlV (RatP N) 3 H xv x) (hm : p.rows.length ≤ 1000) (hxl : x.length = p.rows.length) (hN : N ≤ 400000000) :
  Fn Tryz.prog 96 #[v, xv] H (RetR H (p.lp.bndsum (fn x))) := by
 obtain ⟨fv, rv0, rfl, hfv, hrv0⟩ := id hp
 obtain ⟨Af, cf, xf, rfl, hrF, hxF⟩ := hfv.one
 obtain ⟨Ar, cr, xr, rfl, hcr, hrR, hxR⟩ := hrv0
 obtain ⟨Ax, cx, xx, rfl, hcx, hrX, hxX⟩ := id hx
 have hxz := hx.rsize
 have hrz := hp.rsize
 have hsum := sum_size (f := fn x) (g := p.lp.b) (s := N + 2) (n := p.rows.length) (fun k hk => ⟨fn_size hxz (by omega), by
  have h9 := hrz _ (List.getElem_mem hk)
  have h8 : p.row k = p.rows[k] := Prg.row_get (List.getElem?_eq_getElem hk)
  show szQ (p.row k).2.2 ≤ _; rw [h8]; exact h9.2⟩)
 refine fn_intro (args := [_, _]) Tryz.func96 rfl rfl Tryz.ntmps96 rfl rfl fun w0 => ?_; refine vc_keep [0, 1] rfl ?_; refine vc_sr ?_; refine vco_box rfl rfl ?_; refine vco_alloc el42 rfl ?_; refine vco_k [1, 2, 4] ?_; refine vc_sr ?_; refine vco_call rfl rfl ((rFromInt_ok (n := 0) (by decide) (by decide)).rc) ?_; rintro _ H1 ⟨hl1, t1, rfl, hq1⟩; rw [show ((0 : Int) : Rat) = 0 from rfl] at hq1; refine vco_alloc el42 rfl ?_; obtain ⟨ti, hti, htz⟩ := sz42; refine vco_bstore (.inl ⟨rfl, rfl⟩) rfl rfl rfl hti htz rfl rfl rfl ?_; refine vco_k [1, 2, 4, 5] ?_; refine vc_seq ?_; refine vc_sr ?_; refine vr 4 ?_; refine vco_k [1, 2, 4, 5, 10, 11] ?_; refine vc_block ?_; refine vc_loop2 (fun (i : Nat) (t : RC) => p.rows.length - i) (fun (i : Nat) (t : RC) => put (put (put (put (put (put (emp) 1 (.val (.slice Ax x.length cx))) 2 (.box [.slice Af p.free.length cf, .slice Ar p.rows.length cr])) 4 (.box [.bool false, .slice none 0 0, .slice none 0 0])) 5 (.box [.bool t.f, .slice t.A1 t.m1 t.c1, .slice t.A2 t.m2 t.c2])) 10 (.val (.int .i64 (p.rows.length : Int)))) 11 (.val (.int .i64 (i : Int)))) (fun (i : Nat) (t : RC) H' => Heap.le H H' ∧ CanV H' t.v (sumN i (fun k => fn x k * p.lp.b k)) ∧ i ≤ p.rows.length) 0 t1 (⟨hl1, hq1, Nat.zero_le _⟩) sub_auto ?_; rintro i t H2 ⟨hl2, hq2, hi⟩; refine vc_sr ?_; refine vr 1 ?_; refine vco_k [1, 2, 4, 5, 10, 11, 12] ?_; refine vc_seq ?_; refine vc_cond rfl (fun hb => ?_) (fun hb => ?_)
 ·
  have him : i < p.rows.length := by simpa using hb
  obtain ⟨r, hr⟩ : ∃ r, p.rows[i]? = some r := ⟨_, List.getElem?_eq_getElem him⟩; obtain ⟨A0, c0, f, A1, m1, c1, A2, m2, c2, hsg, hsl, hraw, hrx⟩ := SlV.segR hxR hr; have hrow : p.row i = r := Prg.row_get hr; obtain ⟨q, hqk⟩ : ∃ q, x[i]? = some q := ⟨_, List.getElem?_eq_getElem (by omega)⟩; obtain ⟨g5, B1, k1, e1, B2, k2, e2, hsg5, hraw5, hqx⟩ := SlV.seg3 hxX hqk; have hfq := fn_get hqk
  have hfb : p.lp.b i = r.2.2 := by show (p.row i).2.2 = _; rw [hrow]
  have hz1 := hsum i hi; have hz2 := szc (s := N + 2) hm (Nat.le_refl _) hN hi; have hz3 := szQ_mul q r.2.2; have hz4 := hraw5.size; have hz5 := hraw.size; refine vc_skip ?_; refine vc_keep [1, 2, 4, 5, 10, 11] rfl ?_; refine vc_seq ?_; refine vc_block ?_; refine vc_sr ?_; refine vr 2 ?_; refine vco_k [1, 2, 4, 5, 6, 10, 11] ?_; refine vc_draw .drawB [0, 1, 2, 3, 4, 5, 6, 7, 8, 9, 10, 11, 12, 13] follows (by kernel_rfl) ?_; refine vr 3 ?_; refine vco_at_st (vs := [.bool g5, .slice B1 k1 e1, .slice B2 k2 e2]) tbOk rfl rfl rfl rfl (hrX.le hl2) rfl (by decide) hqx (by omega) (by omega) fun _ => ?_; refine vr 3 ?_; refine vco_atf_st tbOk rfl rfl rfl rfl rfl rfl (hrR.le hl2) rfl (by decide) (row_b hrx) (by omega) (by omega) fun _ _ => ?_; refine vco_callM rfl rfl ((rMul_ok (hraw5.le hl2) (hraw.le hl2) (by omega)).rc) (fun _ _ h => by first | exact h.le | exact h.1) ?_; rintro _ H3 ⟨hl3, t3, rfl, hq3⟩; refine vco_callM rfl rfl ((rAdd_ok (N := 900000000000) (((CanV.raw hq2).mono (Nat.le_trans hz1 (by omega))).le hl3) ((CanV.raw hq3).mono (by omega)) (by decide)).rc) (fun _ _ h => by first | exact h.le | exact h.1) ?_; rintro _ H4 ⟨hl4, t4, rfl, hq4⟩; rw [← hfq, ← hfb, show sumN i (fun k => fn x k * p.lp.b k) + fn x i * p.lp.b i = sumN (i + 1) (fun k => fn x k * p.lp.b k) from rfl] at hq4; obtain ⟨ti, hti, htz⟩ := sz42; refine vco_bstore (.inl ⟨rfl, rfl⟩) rfl rfl rfl hti htz rfl rfl rfl ?_; refine vco_end ?_; refine vc_keep [1, 2, 4, 5, 10, 11] rfl ?_
  refine vc_region rfl ?_; refine vco_add rfl rfl ⟨by omega, by omega⟩ ?_; refine vr 1 ?_; refine vco_end ?_; exact ⟨i + 1, t4, by omega, sub_auto, hl2.trans (hl3.trans hl4), hq4, by omega⟩
 ·
  have hb : p.rows.length ≤ i := by simpa using hb
  obtain rfl : i = p.rows.length := by omega
  refine vc_exit ?_; refine vc_keep [4, 5] rfl ?_; refine vc_sr ?_; refine vr 1 ?_; obtain ⟨ti, hti, htz⟩ := sz42; refine vco_bstore (.inl ⟨rfl, rfl⟩) rfl rfl rfl hti htz rfl rfl rfl ?_; refine vco_k [4] ?_; obtain ⟨ri0, rhi0, rhz0⟩ := sz42; refine vc_ret ⟨.inr rfl, _, .agg rfl Tryz.underlying42 rhi0 rhz0 (.nil), ?_⟩; exact ⟨hl2, t, rfl, hq2⟩
theorem rColumnSum_ok {H : Heap} {v xv : Value} {p : Prg} {x : List Rat} {N : Nat} {j : Nat} (hok : p.Ok) (hj : j < p.free.length) (hp : ProgV N H v p) (hx : SlV (RatP N) 3 H xv x) (hm : p.rows.length ≤ 1000) (hxl : x.length = p.rows.length) (hN : N ≤ 400000000) :
  Fn Tryz.prog 95 #[v, xv, .int .i64 (j : Int)] H (RetR H (p.lp.colsum (fn x) j)) := by
 obtain ⟨fv, rv0, rfl, hfv, hrv0⟩ := id hp
 obtain ⟨Af, cf, xf, rfl, hrF, hxF⟩ := hfv.one
 obtain ⟨Ar, cr, xr, rfl, hcr, hrR, hxR⟩ := hrv0
 obtain ⟨Ax, cx, xx, rfl, hcx, hrX, hxX⟩ := id hx
 have hxz := hx.rsize
 have hrz := hp.rsize
 have hsum := sum_size (f := fn x) (g := (fun k => p.lp.a k j)) (s := N + 2) (n := p.rows.length) (fun k hk => ⟨fn_size hxz (by omega), by
  have h9 := hrz _ (List.getElem_mem hk)
  have h8 : p.row k = p.rows[k] := Prg.row_get (List.getElem?_eq_getElem hk)
  show szQ (fn (p.row k).1 j) ≤ _; rw [h8]; exact fn_size h9.1 (by have h7 := (hok.row k _ (List.getElem?_eq_getElem hk)).1; omega)⟩)
 refine fn_intro (args := [_, _, _]) Tryz.func95 rfl rfl Tryz.ntmps95 rfl rfl fun w0 => ?_; refine vc_keep [0, 1, 2] rfl ?_; refine vc_sr ?_; refine vco_box rfl rfl ?_; refine vco_alloc el42 rfl ?_; refine vco_k [1, 2, 3, 6] ?_; refine vc_sr ?_; refine vco_call rfl rfl ((rFromInt_ok (n := 0) (by decide) (by decide)).rc) ?_; rintro _ H1 ⟨hl1, t1, rfl, hq1⟩; rw [show ((0 : Int) : Rat) = 0 from rfl] at hq1; refine vco_alloc el42 rfl ?_; obtain ⟨ti, hti, htz⟩ := sz42; refine vco_bstore (.inl ⟨rfl, rfl⟩) rfl rfl rfl hti htz rfl rfl rfl ?_; refine vco_k [1, 2, 3, 6, 7] ?_; refine vc_seq ?_; refine vc_sr ?_; refine vr 4 ?_; refine vco_k [1, 2, 3, 6, 7, 12, 13] ?_; refine vc_block ?_; refine vc_loop2 (fun (i : Nat) (t : RC) => p.rows.length - i) (fun (i : Nat) (t : RC) => put (put (put (put (put (put (put (emp) 1 (.val (.slice Ax x.length cx))) 2 (.val (.int .i64 (j : Int)))) 3 (.box [.slice Af p.free.length cf, .slice Ar p.rows.length cr])) 6 (.box [.bool false, .slice none 0 0, .slice none 0 0])) 7 (.box [.bool t.f, .slice t.A1 t.m1 t.c1, .slice t.A2 t.m2 t.c2])) 12 (.val (.int .i64 (p.rows.length : Int)))) 13 (.val (.int .i64 (i : Int)))) (fun (i : Nat) (t : RC) H' => Heap.le H H' ∧ CanV H' t.v (sumN i (fun k => fn x k * (fun k => p.lp.a k j) k)) ∧ i ≤ p.rows.length) 0 t1 (⟨hl1, hq1, Nat.zero_le _⟩) sub_auto ?_; rintro i t H2 ⟨hl2, hq2, hi⟩; refine vc_sr ?_; refine vr 1 ?_; refine vco_k [1, 2, 3, 6, 7, 12, 13, 14] ?_; refine vc_seq ?_; refine vc_cond rfl (fun hb => ?_) (fun hb => ?_)
 ·
  have him : i < p.rows.length := by simpa using hb
  obtain ⟨r, hr⟩ : ∃ r, p.rows[i]? = some r := ⟨_, List.getElem?_eq_getElem him⟩; obtain ⟨A0, c0, f, A1, m1, c1, A2, m2, c2, hsg, hsl, hraw, hrx⟩ := SlV.segR hxR hr; have hrow : p.row i = r := Prg.row_get hr; obtain ⟨q, hqk⟩ : ∃ q, x[i]? = some q := ⟨_, List.getElem?_eq_getElem (by omega)⟩; obtain ⟨g5, B1, k1, e1, B2, k2, e2, hsg5, hraw5, hqx⟩ := SlV.seg3 hxX hqk; have hfq := fn_get hqk; have hrn1 : r.1.length = p.free.length := (hok.row i r hr).1; have hn4 := hok.cols; obtain ⟨q2, hqk2⟩ : ∃ q, r.1[j]? = some q := ⟨_, List.getElem?_eq_getElem (by omega)⟩
  have hfb : (fun k => p.lp.a k j) i = q2 := by show fn (p.row i).1 j = _; rw [hrow]; exact fn_get hqk2
  obtain ⟨A0', c0', x0, e0, hc0, hr0, he0⟩ := id hsl
  cases e0
  obtain ⟨g6, D1, n1, d1, D2, n2, d2, hsg6, hraw6, hqx2⟩ := SlV.seg3 he0 hqk2; have hz1 := hsum i hi; have hz2 := szc (s := N + 2) hm (Nat.le_refl _) hN hi; have hz3 := szQ_mul q q2; have hz4 := hraw5.size; have hz5 := hraw6.size; refine vc_skip ?_; refine vc_keep [1, 2, 3, 6, 7, 12, 13] rfl ?_; refine vc_seq ?_; refine vc_block ?_; refine vc_sr ?_; refine vr 2 ?_; refine vco_k [1, 2, 3, 6, 7, 8, 12, 13] ?_; refine vc_draw .drawB [0, 1, 2, 3, 4, 5, 6, 7, 8, 9, 10, 11, 12, 13, 14, 15, 16] follows (by kernel_rfl) ?_; refine vr 3 ?_; refine vco_at_st (vs := [.bool g5, .slice B1 k1 e1, .slice B2 k2 e2]) tbOk rfl rfl rfl rfl (hrX.le hl2) rfl (by decide) hqx (by omega) (by omega) fun _ => ?_; refine vr 3 ?_; refine vco_atf tbOk rfl rfl rfl rfl rfl rfl rfl (hrR.le hl2) (hrx 0 _ rfl) (by omega) (by omega) fun _ _ => ?_; refine vr 1 ?_; refine vco_at_st (vs := [.bool g6, .slice D1 n1 d1, .slice D2 n2 d2]) tbOk rfl rfl rfl rfl (hr0.le hl2) rfl (by decide) hqx2 (by omega) (by omega) fun _ => ?_; refine vco_callM rfl rfl ((rMul_ok (hraw5.le hl2) (hraw6.le hl2) (by omega)).rc) (fun _ _ h => by first | exact h.le | exact h.1) ?_; rintro _ H3 ⟨hl3, t3, rfl, hq3⟩; refine vco_callM rfl rfl ((rAdd_ok (N := 900000000000) (((CanV.raw hq2).mono (Nat.le_trans hz1 (by omega))).le hl3) ((CanV.raw hq3).mono (by omega)) (by decide)).rc) (fun _ _ h => by first | exact h.le | exact h.1) ?_; rintro _ H4 ⟨hl4, t4, rfl, hq4⟩; rw [← hfq, ← hfb, show sumN i (fun k => fn x k * (fun k => p.lp.a k j) k) + fn x i * (fun k => p.lp.a k j) i = sumN (i + 1) (fun k => fn x k * (fun k => p.lp.a k j) k) from rfl] at hq4
  obtain ⟨ti, hti, htz⟩ := sz42; refine vco_bstore (.inl ⟨rfl, rfl⟩) rfl rfl rfl hti htz rfl rfl rfl ?_; refine vco_end ?_; refine vc_keep [1, 2, 3, 6, 7, 12, 13] rfl ?_; refine vc_region rfl ?_; refine vco_add rfl rfl ⟨by omega, by omega⟩ ?_; refine vr 1 ?_; refine vco_end ?_; exact ⟨i + 1, t4, by omega, sub_auto, hl2.trans (hl3.trans hl4), hq4, by omega⟩
 ·
  have hb : p.rows.length ≤ i := by simpa using hb
  obtain rfl : i = p.rows.length := by omega
  refine vc_exit ?_; refine vc_keep [6, 7] rfl ?_; refine vc_sr ?_; refine vr 1 ?_; obtain ⟨ti, hti, htz⟩ := sz42; refine vco_bstore (.inl ⟨rfl, rfl⟩) rfl rfl rfl hti htz rfl rfl rfl ?_; refine vco_k [6] ?_; obtain ⟨ri0, rhi0, rhz0⟩ := sz42; refine vc_ret ⟨.inr rfl, _, .agg rfl Tryz.underlying42 rhi0 rhz0 (.nil), ?_⟩; exact ⟨hl2, t, rfl, hq2⟩
end Go.Eng
