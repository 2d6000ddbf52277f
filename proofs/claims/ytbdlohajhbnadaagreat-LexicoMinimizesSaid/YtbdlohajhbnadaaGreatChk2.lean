/- Walks over package amortcostref22, part 2: CheckOptimal, CheckInfeasible, CheckUnbounded, Check. -/
import Derived.Test.YtbdlohajhbnadaaGreatA10
import Derived.Test.YtbdlohajhbnadaaGreatChk1
set_option linter.unusedVariables false
namespace Go.Eng
open Go.Proofs Num Lp
theorem cmp_lt {p q : Rat} : cmpQ p q < 0 ↔ p < q := by unfold cmpQ; split; (constructor <;> intro <;> grind); split; (constructor <;> intro <;> grind); (constructor <;> intro <;> grind)
theorem cmp_gt {p q : Rat} : 0 < cmpQ p q ↔ q < p := by unfold cmpQ; split; (constructor <;> intro <;> grind); split; (constructor <;> intro <;> grind); (constructor <;> intro <;> grind)
theorem colsum_sz {p : Prg} {x : List Rat} {N j : Nat} {H : Heap} {v : Value} (hp : ProgV N H v p) (hok : p.Ok) (hj : j < p.free.length) (hx : ∀ q, q ∈ x → szQ q ≤ N + 2) (hxl : x.length = p.rows.length) (hN : N ≤ 400000000) : szQ (p.lp.colsum (fn x) j) ≤ 900000000000 := by
  have hm := hok.rows
  have hrz := hp.rsize
  have h1 := sum_size (f := fn x) (g := fun k => p.lp.a k j) (s := N + 2) (n := p.rows.length) (fun k hk => ⟨fn_size hx (by omega), by
    have h9 := hrz _ (List.getElem_mem hk)
    have h8 : p.row k = p.rows[k] := Prg.row_get (List.getElem?_eq_getElem hk)
    show szQ (fn (p.row k).1 j) ≤ _; rw [h8]; exact fn_size h9.1 (by have h7 := (hok.row k _ (List.getElem?_eq_getElem hk)).1; omega)⟩) p.rows.length (Nat.le_refl _)
  have h2 := szc (n := p.rows.length) (s := N + 2) (by omega) (Nat.le_refl _) hN (Nat.le_refl _)
  exact Nat.le_trans h1 (by omega)
theorem bndsum_sz {p : Prg} {x : List Rat} {N : Nat} {H : Heap} {v : Value} (hp : ProgV N H v p) (hok : p.Ok) (hx : ∀ q, q ∈ x → szQ q ≤ N + 2) (hxl : x.length = p.rows.length) (hN : N ≤ 400000000) : szQ (p.lp.bndsum (fn x)) ≤ 900000000000 := by
  have hm := hok.rows
  have hrz := hp.rsize
  have h1 := sum_size (f := fn x) (g := p.lp.b) (s := N + 2) (n := p.rows.length) (fun k hk => ⟨fn_size hx (by omega), by
    have h9 := hrz _ (List.getElem_mem hk)
    have h8 : p.row k = p.rows[k] := Prg.row_get (List.getElem?_eq_getElem hk)
    show szQ (p.row k).2.2 ≤ _; rw [h8]; exact h9.2⟩) p.rows.length (Nat.le_refl _)
  have h2 := szc (n := p.rows.length) (s := N + 2) (by omega) (Nat.le_refl _) hN (Nat.le_refl _)
  exact Nat.le_trans h1 (by omega)
theorem dot_sz9 {l1 l2 : List Rat} {N : Nat} (h1 : ∀ q, q ∈ l1 → szQ q ≤ N + 2) (h2 : ∀ q, q ∈ l2 → szQ q ≤ N + 2) (hl : l1.length = l2.length) (hn : l1.length ≤ 1000) (hN : N ≤ 400000000) : szQ (dotN l1.length (fn l1) (fn l2)) ≤ 900000000000 := by
  have hz1 := dot_sz (M := N + 2) l1.length (fn l1) (fn l2) (fun j hj => h1 _ (fn_mem hj)) (fun j hj => h2 _ (fn_mem (by omega)))
  have hz2 : l1.length * (2 * (N + 2) + 2) ≤ 1000 * (2 * (N + 2) + 2) := Nat.mul_le_mul_right _ (by omega)
  omega
theorem rCheckInfeasible_ok {H : Heap} {v yv : Value} {p : Prg} {y : List Rat} {N : Nat} (hp : ProgV N H v p) (hy : SlV (RatP N) 3 H yv y) (hN : N ≤ 400000000) :
  Fn Tryz.prog 48 #[v, yv] H (fun v H' => Heap.le H H' ∧ ∃ b, v = .bool b ∧ (b = true ↔ ChkInf p y)) := by
 obtain ⟨fv, rv0, rfl, hfv, hrv0⟩ := id hp
 obtain ⟨Af, cf, xf, rfl, hrF, hxF⟩ := hfv.one
 obtain ⟨Ar, cr, xr, rfl, hcr, hrR, hxR⟩ := hrv0
 obtain ⟨AY, cY, xY, rfl, hcY, hrY, hxY⟩ := id hy
 have hyz := hy.rsize; refine fn_intro (args := [_, _]) Tryz.func48 rfl rfl Tryz.ntmps48 rfl rfl fun w0 => ?_; refine vc_keep [0, 1] rfl ?_; refine vc_sr ?_; refine vco_box rfl rfl ?_; refine vr 1 ?_; refine vco_k [1, 2] ?_; refine vc_seq ?_; refine vc_sr ?_; refine vr 1 ?_; refine vco_call rfl rfl (rValid_ok hp) ?_; rintro _ H1 ⟨e1, b1, rfl, hb1⟩; rw [e1]
 cases b1
 ·
  skip
  refine vr 7 ?_; refine vco_k [1, 2, 15] ?_; refine vc_cond_t rfl ?_; refine vc_sr ?_; refine vr 1 ?_; refine vco_k [4] ?_; refine vc_ret ⟨.inr rfl, _, .tmp rfl (.nil), ?_⟩; exact ⟨.refl _, false, rfl, ⟨(fun h => by cases h), fun h => by have h9 := hb1.2 h.ok; cases h9⟩⟩
 ·
  skip
  refine vr 2 ?_; have hok := hb1.1 rfl; have hn4 := hok.cols; have hm8 := hok.rows; refine vr 2 ?_; refine vco_call rfl rfl (rSigned_ok hp hy (by omega) hN) ?_; rintro _ H2 ⟨hl2, b2, rfl, hb2⟩; refine vr 2 ?_; refine vco_k [1, 2, 15] ?_; refine vc_cond rfl (fun hb => ?_) (fun hb => ?_)
  ·
   have hbf : b2 = false := by simpa using hb
   subst hbf; refine vc_sr ?_; refine vr 1 ?_; refine vco_k [4] ?_; refine vc_ret ⟨.inr rfl, _, .tmp rfl (.nil), ?_⟩; exact ⟨hl2, false, rfl, ⟨(fun h => by cases h), fun h => by have h9 := hb2.2 ⟨h.ylen, h.cert.signed⟩; cases h9⟩⟩
  ·
   have hbt : b2 = true := by simpa using hb
   subst hbt; obtain ⟨hyl, hsg⟩ := hb2.1 rfl; refine vc_skip ?_; refine vc_keep [1, 2] rfl ?_; refine vc_seq ?_; refine vc_sr ?_; refine vr 4 ?_; refine vco_k [1, 2, 18, 19] ?_; refine vc_block ?_; refine vc_loop1 (fun (j : Nat) => p.free.length - j) (fun (j : Nat) => put (put (put (put (emp) 1 (.val (.slice AY y.length cY))) 2 (.box [.slice Af p.free.length cf, .slice Ar p.rows.length cr])) 18 (.val (.int .i64 (p.free.length : Int)))) 19 (.val (.int .i64 (j : Int)))) (fun (j : Nat) H' => Heap.le H H' ∧ (∀ k, k < j → p.lp.colsum (fn y) k ≤ 0 ∧ (p.lp.free k = true → 0 ≤ p.lp.colsum (fn y) k)) ∧ j ≤ p.free.length) 0 (⟨hl2, (fun k h => by omega), Nat.zero_le _⟩) sub_auto ?_; rintro j H3 ⟨hl3, hal, hj⟩; refine vc_sr ?_; refine vr 1 ?_; refine vco_k [1, 2, 18, 19, 20] ?_; refine vc_seq ?_; refine vc_cond rfl (fun hb => ?_) (fun hb => ?_)
   ·
    have hjn : j < p.free.length := by simpa using hb
    obtain ⟨b, hbk⟩ : ∃ b, p.free[j]? = some b := ⟨_, List.getElem?_eq_getElem hjn⟩; obtain ⟨u, hu, hub⟩ := hxF j b hbk
    cases hub
    have hfb := Prg.free_get hbk; have hcz := colsum_sz hp hok hjn hyz hyl hN; refine vc_skip ?_; refine vc_keep [1, 2, 18, 19] rfl ?_; refine vc_seq ?_; refine vc_block ?_; refine vc_sr ?_; refine vr 2 ?_; refine vco_k [1, 2, 5, 18, 19] ?_; refine vc_sr ?_; refine vr 3 ?_; refine vco_call rfl rfl (rColumnSum_ok hok hjn (hp.le hl3) (hy.le (ratUp N) hl3) (by omega) hyl hN) ?_; rintro _ H4 ⟨hl4, t4, rfl, hq4⟩; refine vco_call rfl rfl (rSign_ok ((CanV.raw hq4).mono hcz) (by decide)) ?_; rintro _ H5 ⟨hl5, rfl⟩; refine vr 1 ?_; refine vco_k [1, 2, 5, 6, 18, 19] ?_
    by_cases h1 : 0 < sgnQ (p.lp.colsum (fn y) j)
    ·
     skip
     refine vc_sr ?_; refine vr 1 ?_; refine vco_cmp true rfl rfl (cgt_t h1) ?_; refine vr 11 ?_; refine vco_k [1, 2, 18, 19, 39] ?_; refine vc_cond_t rfl ?_; refine vc_sr ?_; refine vr 1 ?_; refine vco_k [4] ?_; refine vc_ret ⟨.inr rfl, _, .tmp rfl (.nil), ?_⟩; exact ⟨hl3.trans (hl4.trans hl5), false, rfl, ⟨(fun h => by cases h), fun h => by have h9 := sgn_le.2 (h.cert.cols j hjn).1; omega⟩⟩
    ·
     skip
     cases b
     ·
      skip
      refine vc_sr ?_; refine vr 1 ?_; refine vco_cmp false rfl rfl (cgt_f (by omega)) ?_; refine vr 4 ?_; refine vco_at tbOk rfl rfl rfl rfl rfl (hrF.le (hl3.trans (hl4.trans hl5))) (by rw [Int.toNat_natCast]; exact hu) (by omega) (by omega) fun _ => ?_; refine vr 5 ?_; refine vco_k [1, 2, 18, 19, 39] ?_; refine vc_cond_f rfl ?_; refine vc_skip ?_; refine vc_keep [1, 2, 18, 19] rfl ?_; refine vc_region rfl ?_; refine vco_add rfl rfl ⟨by omega, by omega⟩ ?_; refine vr 1 ?_; refine vco_end ?_; exact ⟨j + 1, by omega, sub_auto, hl3.trans (hl4.trans hl5), (fun k hk => by by_cases h9 : k < j; exact hal k h9; (obtain rfl : k = j := by omega); exact ⟨sgn_le.1 (by omega), fun e => by rw [hfb] at e; cases e⟩), by omega⟩
     ·
      skip
      by_cases h2 : sgnQ (p.lp.colsum (fn y) j) < 0
      ·
       skip
       refine vc_sr ?_; refine vr 1 ?_; refine vco_cmp false rfl rfl (cgt_f (by omega)) ?_; refine vr 4 ?_; refine vco_at tbOk rfl rfl rfl rfl rfl (hrF.le (hl3.trans (hl4.trans hl5))) (by rw [Int.toNat_natCast]; exact hu) (by omega) (by omega) fun _ => ?_; refine vr 2 ?_; refine vco_cmp true rfl rfl (clt_t h2) ?_; refine vr 2 ?_; refine vco_k [1, 2, 18, 19, 39] ?_; refine vc_cond_t rfl ?_; refine vc_sr ?_; refine vr 1 ?_; refine vco_k [4] ?_; refine vc_ret ⟨.inr rfl, _, .tmp rfl (.nil), ?_⟩; exact ⟨hl3.trans (hl4.trans hl5), false, rfl, ⟨(fun h => by cases h), fun h => by have h9 := sgn_ge.2 ((h.cert.cols j hjn).2 hfb); omega⟩⟩
      ·
       skip
       refine vc_sr ?_; refine vr 1 ?_; refine vco_cmp false rfl rfl (cgt_f (by omega)) ?_; refine vr 4 ?_; refine vco_at tbOk rfl rfl rfl rfl rfl (hrF.le (hl3.trans (hl4.trans hl5))) (by rw [Int.toNat_natCast]; exact hu) (by omega) (by omega) fun _ => ?_; refine vr 2 ?_; refine vco_cmp false rfl rfl (clt_f (by omega)) ?_; refine vr 2 ?_; refine vco_k [1, 2, 18, 19, 39] ?_; refine vc_cond_f rfl ?_; refine vc_skip ?_; refine vc_keep [1, 2, 18, 19] rfl ?_; refine vc_region rfl ?_; refine vco_add rfl rfl ⟨by omega, by omega⟩ ?_; refine vr 1 ?_; refine vco_end ?_; exact ⟨j + 1, by omega, sub_auto, hl3.trans (hl4.trans hl5), (fun k hk => by by_cases h9 : k < j; exact hal k h9; (obtain rfl : k = j := by omega); exact ⟨sgn_le.1 (by omega), fun _ => sgn_ge.1 (by omega)⟩), by omega⟩
   ·
    have hb : p.free.length ≤ j := by simpa using hb
    have hbz := bndsum_sz hp hok hyz hyl hN; refine vc_exit ?_; refine vc_keep [1, 2] rfl ?_; refine vc_sr ?_; refine vr 2 ?_; refine vco_call rfl rfl (rBoundSum_ok (hp.le hl3) (hy.le (ratUp N) hl3) (by omega) hyl hN) ?_; rintro _ H4 ⟨hl4, t4, rfl, hq4⟩; refine vco_call rfl rfl (rSign_ok ((CanV.raw hq4).mono hbz) (by decide)) ?_; rintro _ H5 ⟨hl5, rfl⟩; refine vr 2 ?_; refine vco_k [4] ?_; refine vc_ret ⟨.inr rfl, _, .tmp rfl (.nil), ?_⟩; exact ⟨hl3.trans (hl4.trans hl5), _, rfl, by rw [decide_eq_true_iff, gt_iff_lt, sgn_gt]; exact ⟨fun h => ⟨hok, hyl, hsg, fun k hk => hal k (Nat.lt_of_lt_of_le hk hb), h⟩, fun h => h.cert.pos⟩⟩
theorem rCheckOptimal_ok {H : Heap} {v cv xv yv : Value} {p : Prg} {c x y : List Rat} {N : Nat} (hp : ProgV N H v p) (hc : SlV (RatP N) 3 H cv c) (hx : SlV (RatP N) 3 H xv x) (hy : SlV (RatP N) 3 H yv y) (hN : N ≤ 400000000) :
  Fn Tryz.prog 93 #[v, cv, xv, yv] H (fun v H' => Heap.le H H' ∧ ∃ b, v = .bool b ∧ (b = true ↔ ChkOpt p c x y)) := by
 obtain ⟨fv, rv0, rfl, hfv, hrv0⟩ := id hp
 obtain ⟨Af, cf, xf, rfl, hrF, hxF⟩ := hfv.one
 obtain ⟨Ar, cr, xr, rfl, hcr, hrR, hxR⟩ := hrv0
 obtain ⟨AC, cC, xC, rfl, hcC, hrC, hxC⟩ := id hc
 have hcz := hc.rsize
 obtain ⟨AX, cX, xX, rfl, hcX, hrX, hxX⟩ := id hx
 have hxz := hx.rsize
 obtain ⟨AY, cY, xY, rfl, hcY, hrY, hxY⟩ := id hy
 have hyz := hy.rsize; refine fn_intro (args := [_, _, _, _]) Tryz.func93 rfl rfl Tryz.ntmps93 rfl rfl fun w0 => ?_; refine vc_keep [0, 1, 2, 3] rfl ?_; refine vc_sr ?_; refine vco_box rfl rfl ?_; refine vr 1 ?_; refine vco_k [1, 2, 3, 4] ?_; refine vc_seq ?_; refine vc_sr ?_; refine vr 2 ?_; refine vco_call rfl rfl (rFeasible_ok hp hx hN) ?_; rintro _ H1 ⟨hl1, b1, rfl, hb1⟩
 cases b1
 ·
  skip
  refine vr 15 ?_; refine vco_k [1, 2, 3, 4, 28] ?_; refine vc_cond_t rfl ?_; refine vc_sr ?_; refine vr 1 ?_; refine vco_k [8] ?_; refine vc_ret ⟨.inr rfl, _, .tmp rfl (.nil), ?_⟩; exact ⟨hl1, false, rfl, ⟨(fun h => by cases h), fun h => by have h9 := hb1.2 h.feas; cases h9⟩⟩
 ·
  skip
  refine vr 2 ?_; have hpf := hb1.1 rfl; have hok := hpf.ok; have hn4 := hok.cols; have hm8 := hok.rows; refine vr 5 ?_
  by_cases hcl : c.length = p.free.length
  ·
   skip
   refine vco_cmp false rfl rfl (cne_f (by omega)) ?_; refine vr 4 ?_; refine vco_call rfl rfl (rSigned_ok (hp.le hl1) (hy.le (ratUp N) hl1) (by omega) hN) ?_; rintro _ H2 ⟨hl2, b2, rfl, hb2⟩; refine vr 2 ?_; refine vco_k [1, 2, 3, 4, 28] ?_; refine vc_cond rfl (fun hb => ?_) (fun hb => ?_)
   ·
    have hbf : b2 = false := by simpa using hb
    subst hbf; refine vc_sr ?_; refine vr 1 ?_; refine vco_k [8] ?_; refine vc_ret ⟨.inr rfl, _, .tmp rfl (.nil), ?_⟩; exact ⟨hl1.trans hl2, false, rfl, ⟨(fun h => by cases h), fun h => by have h9 := hb2.2 ⟨h.ylen, h.cert.signed⟩; cases h9⟩⟩
   ·
    have hbt : b2 = true := by simpa using hb
    subst hbt; obtain ⟨hyl, hsg⟩ := hb2.1 rfl; have hl02 := hl1.trans hl2; refine vc_skip ?_; refine vc_keep [1, 2, 3, 4] rfl ?_; refine vc_seq ?_; refine vc_sr ?_; refine vr 4 ?_; refine vco_k [1, 2, 3, 4, 31, 32] ?_; refine vc_block ?_; refine vc_loop1 (fun (j : Nat) => p.free.length - j) (fun (j : Nat) => put (put (put (put (put (put (emp) 1 (.val (.slice AC c.length cC))) 2 (.val (.slice AX x.length cX))) 3 (.val (.slice AY y.length cY))) 4 (.box [.slice Af p.free.length cf, .slice Ar p.rows.length cr])) 31 (.val (.int .i64 (p.free.length : Int)))) 32 (.val (.int .i64 (j : Int)))) (fun (j : Nat) H' => Heap.le H H' ∧ (∀ k, k < j → 0 ≤ fn c k - p.lp.colsum (fn y) k ∧ (p.lp.free k = true → fn c k - p.lp.colsum (fn y) k ≤ 0)) ∧ j ≤ p.free.length) 0 (⟨hl02, (fun k h => by omega), Nat.zero_le _⟩) sub_auto ?_; rintro j H3 ⟨hl3, hal, hj⟩; refine vc_sr ?_; refine vr 1 ?_; refine vco_k [1, 2, 3, 4, 31, 32, 33] ?_; refine vc_seq ?_; refine vc_cond rfl (fun hb => ?_) (fun hb => ?_)
    ·
     have hjn : j < p.free.length := by simpa using hb
     obtain ⟨b, hbk⟩ : ∃ b, p.free[j]? = some b := ⟨_, List.getElem?_eq_getElem hjn⟩; obtain ⟨u, hu, hub⟩ := hxF j b hbk
     cases hub
     have hfb := Prg.free_get hbk; have hcz := colsum_sz hp hok hjn hyz hyl hN; obtain ⟨q, hqk⟩ : ∃ q, c[j]? = some q := ⟨_, List.getElem?_eq_getElem (by omega)⟩; obtain ⟨g5, B1, k1, e1, B2, k2, e2, hsg5, hraw5, hqx⟩ := SlV.seg3 hxC hqk; have hfq := fn_get hqk; refine vc_skip ?_; refine vc_keep [1, 2, 3, 4, 31, 32] rfl ?_; refine vc_seq ?_; refine vc_block ?_; refine vc_sr ?_; refine vr 2 ?_; refine vco_k [1, 2, 3, 4, 9, 31, 32] ?_; refine vc_sd .drawB [0, 1, 2, 3, 4, 5, 6, 7, 8, 9] follows (by kernel_rfl) ?_; refine vr 2 ?_; refine vco_at_st (vs := [.bool g5, .slice B1 k1 e1, .slice B2 k2 e2]) tbOk rfl rfl rfl rfl (hrC.le hl3) rfl (by decide) hqx (by omega) (by omega) fun _ => ?_; refine vr 3 ?_; refine vco_callM rfl rfl (rColumnSum_ok hok hjn (hp.le hl3) (hy.le (ratUp N) hl3) (by omega) hyl hN) (fun _ _ h => by first | exact h.le | exact h.1) ?_; rintro _ H4 ⟨hl4, t4, rfl, hq4⟩; refine vco_callM rfl rfl (rCmp_ok (N := 900000000000) (((hraw5.mono (by omega)).le hl3).le hl4) ((CanV.raw hq4).mono hcz) (by decide)) (fun _ _ h => by first | exact h.le | exact h.1) ?_; rintro _ H5 ⟨hl5, rfl⟩; refine vr 1 ?_; refine vco_k [1, 2, 3, 4, 9, 10, 31, 32] ?_
     by_cases h1 : cmpQ q (p.lp.colsum (fn y) j) < 0
     ·
      skip
      refine vc_sr ?_; refine vr 1 ?_; refine vco_cmp true rfl rfl (clt_t h1) ?_; refine vr 11 ?_; refine vco_k [1, 2, 3, 4, 31, 32, 56] ?_; refine vc_cond_t rfl ?_; refine vc_sr ?_; refine vr 1 ?_; refine vco_k [8] ?_; refine vc_ret ⟨.inr rfl, _, .tmp rfl (.nil), ?_⟩; exact ⟨hl3.trans (hl4.trans hl5), false, rfl, ⟨(fun h => by cases h), fun h => by have h9 := (h.cert.cols j hjn).1; rw [hfq] at h9; have h8 := cmp_lt.1 h1; exfalso; grind⟩⟩
     ·
      skip
      cases b
      ·
       skip
       refine vc_sr ?_; refine vr 1 ?_; refine vco_cmp false rfl rfl (clt_f (by omega)) ?_; refine vr 4 ?_; refine vco_at tbOk rfl rfl rfl rfl rfl (hrF.le (hl3.trans (hl4.trans hl5))) (by rw [Int.toNat_natCast]; exact hu) (by omega) (by omega) fun _ => ?_; refine vr 5 ?_; refine vco_k [1, 2, 3, 4, 31, 32, 56] ?_; refine vc_cond_f rfl ?_; refine vc_skip ?_; refine vc_keep [1, 2, 3, 4, 31, 32] rfl ?_; refine vc_region rfl ?_; refine vco_add rfl rfl ⟨by omega, by omega⟩ ?_; refine vr 1 ?_; refine vco_end ?_; exact ⟨j + 1, by omega, sub_auto, hl3.trans (hl4.trans hl5), (fun k hk => by by_cases h9 : k < j; exact hal k h9; (obtain rfl : k = j := by omega); exact ⟨by have h8 := cmp_ge.1 (show 0 ≤ cmpQ q (p.lp.colsum (fn y) k) by omega); rw [hfq]; grind, fun e => by rw [hfb] at e; cases e⟩), by omega⟩
      ·
       skip
       by_cases h2 : 0 < cmpQ q (p.lp.colsum (fn y) j)
       ·
        skip
        refine vc_sr ?_; refine vr 1 ?_; refine vco_cmp false rfl rfl (clt_f (by omega)) ?_; refine vr 4 ?_; refine vco_at tbOk rfl rfl rfl rfl rfl (hrF.le (hl3.trans (hl4.trans hl5))) (by rw [Int.toNat_natCast]; exact hu) (by omega) (by omega) fun _ => ?_; refine vr 2 ?_; refine vco_cmp true rfl rfl (cgt_t h2) ?_; refine vr 2 ?_; refine vco_k [1, 2, 3, 4, 31, 32, 56] ?_; refine vc_cond_t rfl ?_; refine vc_sr ?_; refine vr 1 ?_; refine vco_k [8] ?_; refine vc_ret ⟨.inr rfl, _, .tmp rfl (.nil), ?_⟩; exact ⟨hl3.trans (hl4.trans hl5), false, rfl, ⟨(fun h => by cases h), fun h => by have h9 := (h.cert.cols j hjn).2 hfb; rw [hfq] at h9; have h8 := cmp_gt.1 h2; exfalso; grind⟩⟩
       ·
        skip
        refine vc_sr ?_; refine vr 1 ?_; refine vco_cmp false rfl rfl (clt_f (by omega)) ?_; refine vr 4 ?_; refine vco_at tbOk rfl rfl rfl rfl rfl (hrF.le (hl3.trans (hl4.trans hl5))) (by rw [Int.toNat_natCast]; exact hu) (by omega) (by omega) fun _ => ?_; refine vr 2 ?_; refine vco_cmp false rfl rfl (cgt_f (by omega)) ?_; refine vr 2 ?_; refine vco_k [1, 2, 3, 4, 31, 32, 56] ?_; refine vc_cond_f rfl ?_; refine vc_skip ?_; refine vc_keep [1, 2, 3, 4, 31, 32] rfl ?_; refine vc_region rfl ?_; refine vco_add rfl rfl ⟨by omega, by omega⟩ ?_; refine vr 1 ?_; refine vco_end ?_; exact ⟨j + 1, by omega, sub_auto, hl3.trans (hl4.trans hl5), (fun k hk => by by_cases h9 : k < j; exact hal k h9; (obtain rfl : k = j := by omega); exact ⟨by have h8 := cmp_ge.1 (show 0 ≤ cmpQ q (p.lp.colsum (fn y) k) by omega); rw [hfq]; grind, fun _ => by have h8 := cmp_le.1 (show cmpQ q (p.lp.colsum (fn y) k) ≤ 0 by omega); rw [hfq]; grind⟩), by omega⟩
    ·
     have hb : p.free.length ≤ j := by simpa using hb
     have hbz := bndsum_sz hp hok hyz hyl hN; have hxl := hpf.len; have hdz := dot_sz9 hcz hxz (by omega) (by omega) hN; refine vc_exit ?_; refine vc_keep [1, 2, 3, 4] rfl ?_; refine vc_sr ?_; refine vr 2 ?_; refine vco_call rfl rfl (rBoundSum_ok (hp.le hl3) (hy.le (ratUp N) hl3) (by omega) hyl hN) ?_; rintro _ H4 ⟨hl4, t4, rfl, hq4⟩; refine vr 2 ?_; refine vco_call rfl rfl (rDot_ok ((hc.le (ratUp N) hl3).le (ratUp N) hl4) ((hx.le (ratUp N) hl3).le (ratUp N) hl4) (by omega) (by omega) hN) ?_; rintro _ H5 ⟨hl5, t5, rfl, hq5⟩; refine vco_call rfl rfl (rCmp_ok (N := 900000000000) (((CanV.raw hq4).mono hbz).le hl5) ((CanV.raw hq5).mono hdz) (by decide)) ?_; rintro _ H6 ⟨hl6, rfl⟩; refine vr 2 ?_; refine vco_k [8] ?_; refine vc_ret ⟨.inr rfl, _, .tmp rfl (.nil), ?_⟩; exact ⟨hl3.trans (hl4.trans (hl5.trans hl6)), _, rfl, by rw [beq_iff_eq, cmp_eq]; exact ⟨fun h => ⟨hpf, hcl, hyl, hpf.meets, hsg, fun k hk => hal k (Nat.lt_of_lt_of_le hk hb), by rw [h, hcl]; rfl⟩, fun h => by rw [h.cert.eq, hcl]; rfl⟩⟩
  ·
   skip
   refine vco_cmp true rfl rfl (cne_t (by omega)) ?_; refine vr 7 ?_; refine vco_k [1, 2, 3, 4, 28] ?_; refine vc_cond_t rfl ?_; refine vc_sr ?_; refine vr 1 ?_; refine vco_k [8] ?_; refine vc_ret ⟨.inr rfl, _, .tmp rfl (.nil), ?_⟩; exact ⟨hl1, false, rfl, ⟨(fun h => by cases h), fun h => absurd h.clen hcl⟩⟩
theorem rCheckUnbounded_ok {H : Heap} {v cv xv rv : Value} {p : Prg} {c x r : List Rat} {N : Nat} (hp : ProgV N H v p) (hc : SlV (RatP N) 3 H cv c) (hx : SlV (RatP N) 3 H xv x) (hr : SlV (RatP N) 3 H rv r) (hN : N ≤ 400000000) :
  Fn Tryz.prog 49 #[v, cv, xv, rv] H (fun v H' => Heap.le H H' ∧ ∃ b, v = .bool b ∧ (b = true ↔ ChkUnb p c x r)) := by
 obtain ⟨fv, rv0, rfl, hfv, hrv0⟩ := id hp
 obtain ⟨Af, cf, xf, rfl, hrF, hxF⟩ := hfv.one
 obtain ⟨Ar, cr, xr, rfl, hcr, hrR, hxR⟩ := hrv0
 obtain ⟨AC, cC, xC, rfl, hcC, hrC, hxC⟩ := id hc
 have hcz := hc.rsize
 obtain ⟨AX, cX, xX, rfl, hcX, hrX, hxX⟩ := id hx
 have hxz := hx.rsize
 obtain ⟨AY, cY, xY, rfl, hcY, hrY, hxY⟩ := id hr
 have hrz := hr.rsize; refine fn_intro (args := [_, _, _, _]) Tryz.func49 rfl rfl Tryz.ntmps49 rfl rfl fun w0 => ?_; refine vc_keep [0, 1, 2, 3] rfl ?_; refine vc_sr ?_; refine vco_box rfl rfl ?_; refine vr 1 ?_; refine vco_k [1, 2, 3, 4] ?_; refine vc_seq ?_; refine vc_sr ?_; refine vr 2 ?_; refine vco_call rfl rfl (rFeasible_ok hp hx hN) ?_; rintro _ H1 ⟨hl1, b1, rfl, hb1⟩
 cases b1
 ·
  skip
  refine vr 23 ?_; refine vco_k [1, 3, 4, 36] ?_; refine vc_cond_t rfl ?_; refine vc_sr ?_; refine vr 1 ?_; refine vco_k [8] ?_; refine vc_ret ⟨.inr rfl, _, .tmp rfl (.nil), ?_⟩; exact ⟨hl1, false, rfl, ⟨(fun h => by cases h), fun h => by have h9 := hb1.2 h.feas; cases h9⟩⟩
 ·
  skip
  refine vr 2 ?_; have hpf := hb1.1 rfl; have hok := hpf.ok; have hn4 := hok.cols; have hm8 := hok.rows; refine vr 5 ?_
  by_cases hcl : c.length = p.free.length
  ·
   skip
   refine vco_cmp false rfl rfl (cne_f (by omega)) ?_; refine vr 7 ?_
   by_cases hrl : r.length = p.free.length
   ·
    skip
    refine vco_cmp false rfl rfl (cne_f (by omega)) ?_; refine vr 4 ?_; refine vco_call rfl rfl (rAbove_ok (hp.le hl1) (hr.le (ratUp N) hl1) (by omega) hrl hN) ?_; rintro _ H2 ⟨hl2, b2, rfl, hb2⟩; refine vr 2 ?_; refine vco_k [1, 3, 4, 36] ?_; refine vc_cond rfl (fun hb => ?_) (fun hb => ?_)
    ·
     have hbf : b2 = false := by simpa using hb
     subst hbf; refine vc_sr ?_; refine vr 1 ?_; refine vco_k [8] ?_; refine vc_ret ⟨.inr rfl, _, .tmp rfl (.nil), ?_⟩; exact ⟨hl1.trans hl2, false, rfl, ⟨(fun h => by cases h), fun h => by have h9 := hb2.2 h.cert.ray.1; cases h9⟩⟩
    ·
     have hbt : b2 = true := by simpa using hb
     subst hbt; have hab := hb2.1 rfl; have hl02 := hl1.trans hl2; refine vc_skip ?_; refine vc_keep [1, 3, 4] rfl ?_; refine vc_sr ?_; refine vco_call rfl rfl ((rFromInt_ok (n := 0) (by decide) (by decide)).rc) ?_; rintro _ H8 ⟨hl8, t8, rfl, hq8⟩; rw [show ((0 : Int) : Rat) = 0 from rfl] at hq8; refine vco_alloc el42 rfl ?_; obtain ⟨ti, hti, htz⟩ := sz42; refine vco_bstore (.inl ⟨rfl, rfl⟩) rfl rfl rfl hti htz rfl rfl rfl ?_; refine vco_k [1, 3, 4, 9] ?_; refine vc_seq ?_; refine vc_sr ?_; refine vr 4 ?_; refine vco_k [1, 3, 4, 9, 40, 41] ?_; refine vc_block ?_; refine vc_loop1 (fun (i : Nat) => p.rows.length - i) (fun (i : Nat) => put (put (put (put (put (put (emp) 1 (.val (.slice AC c.length cC))) 3 (.val (.slice AY r.length cY))) 4 (.box [.slice Af p.free.length cf, .slice Ar p.rows.length cr])) 9 (.box [.bool t8.f, .slice t8.A1 t8.m1 t8.c1, .slice t8.A2 t8.m2 t8.c2])) 40 (.val (.int .i64 (p.rows.length : Int)))) 41 (.val (.int .i64 (i : Int)))) (fun (i : Nat) H' => Heap.le H8 H' ∧ (∀ k, k < i → relOk (p.lp.rel k) (dotN p.lp.n (p.lp.a k) (fn r) - p.lp.b k * 0)) ∧ i ≤ p.rows.length) 0 (⟨.refl _, (fun k h => by omega), Nat.zero_le _⟩) sub_auto ?_; rintro i H9 ⟨hl9, hal, hi⟩; have hl3 := (hl02.trans hl8).trans hl9; refine vc_sr ?_; refine vr 1 ?_; refine vco_k [1, 3, 4, 9, 40, 41, 42] ?_; refine vc_seq ?_; refine vc_cond rfl (fun hb => ?_) (fun hb => ?_)
     ·
      have him : i < p.rows.length := by simpa using hb
      obtain ⟨rw', hr'⟩ : ∃ r, p.rows[i]? = some r := ⟨_, List.getElem?_eq_getElem him⟩; obtain ⟨A0, c0, f, A1, m1, c1, A2, m2, c2, hsg, hsl, hraw, hrx⟩ := SlV.segR hxR hr'; have hrow : p.row i = rw' := Prg.row_get hr'; have hrn := hok.row i rw' hr'; have hrn1 : rw'.1.length = p.free.length := hrn.1
      have hrel : p.lp.rel i = rw'.2.1 := by show (p.row i).2.1 = _; rw [hrow]
      have hdot : dotN p.lp.n (p.lp.a i) (fn r) = dotN rw'.1.length (fn rw'.1) (fn r) := by show dotN p.free.length (fun j => fn (p.row i).1 j) (fn r) = _; rw [hrow, hrn1]
      have hbi : p.lp.b i * 0 = 0 := Rat.mul_zero _; have hdz := dot_sz9 hsl.rsize hrz (by omega) (by omega) hN; refine vc_skip ?_; refine vc_keep [1, 3, 4, 9, 40, 41] rfl ?_; refine vc_seq ?_; refine vc_block ?_; refine vc_sr ?_; refine vr 2 ?_; refine vco_k [1, 3, 4, 9, 10, 40, 41] ?_; refine vc_sd .drawB [0, 1, 2, 3, 4, 5, 6, 8, 9, 10, 11, 12, 13, 14, 7, 15, 16] follows (by kernel_rfl) ?_; refine vr 3 ?_; refine vco_atf tbOk rfl rfl rfl rfl rfl rfl rfl (hrR.le hl3) (hrx 0 _ rfl) (by omega) (by omega) fun _ _ => ?_; refine vr 4 ?_; refine vco_atf tbOk rfl rfl rfl rfl rfl rfl rfl (hrR.le hl3) (hrx 1 _ rfl) (by omega) (by omega) fun _ _ => ?_; refine vr 1 ?_; refine vco_callM rfl rfl (rDot_ok (hsl.le (ratUp N) hl3) (hr.le (ratUp N) hl3) (by omega) (by omega) hN) (fun _ _ h => by first | exact h.le | exact h.1) ?_; rintro _ H4 ⟨hl4, t4, rfl, hq4⟩; refine vco_callM rfl rfl (rRelated_ok (a := t4) (b := t8) (N := 900000000000) ((CanV.raw hq4).mono hdz) ((((CanV.raw hq8).mono (by decide)).le hl9).le hl4) (by decide) hrn.2) (fun _ _ h => by first | exact h.le | exact h.1) ?_; rintro _ H5 ⟨hl5, b5, rfl, hb5⟩; refine vr 1 ?_; refine vco_k [1, 3, 4, 9, 40, 41, 60] ?_; refine vc_cond rfl (fun hb => ?_) (fun hb => ?_)
      ·
       have hbf : b5 = false := by simpa using hb
       subst hbf; refine vc_sr ?_; refine vr 1 ?_; refine vco_k [8] ?_; refine vc_ret ⟨.inr rfl, _, .tmp rfl (.nil), ?_⟩; exact ⟨hl3.trans (hl4.trans hl5), false, rfl, ⟨(fun h => by cases h), fun h => by have h9 := h.cert.ray.2 i him; rw [hrel, hdot, hbi] at h9; have h8 := hb5.2 h9; cases h8⟩⟩
      ·
       have hbt : b5 = true := by simpa using hb
       refine vc_skip ?_; refine vc_keep [1, 3, 4, 9, 40, 41] rfl ?_; refine vc_region rfl ?_; refine vco_add rfl rfl ⟨by omega, by omega⟩ ?_; refine vr 1 ?_; refine vco_end ?_; exact ⟨i + 1, by omega, sub_auto, hl9.trans (hl4.trans hl5), (fun k hk => by by_cases h9 : k < i; exact hal k h9; (obtain rfl : k = i := by omega); rw [hrel, hdot, hbi]; exact hb5.1 hbt), by omega⟩
     ·
      have hb : p.rows.length ≤ i := by simpa using hb
      have hdz := dot_sz9 hcz hrz (by omega) (by omega) hN; refine vc_exit ?_; refine vc_keep [1, 3] rfl ?_; refine vc_sr ?_; refine vr 2 ?_; refine vco_call rfl rfl (rDot_ok (hc.le (ratUp N) hl3) (hr.le (ratUp N) hl3) (by omega) (by omega) hN) ?_; rintro _ H4 ⟨hl4, t4, rfl, hq4⟩; refine vco_call rfl rfl (rSign_ok ((CanV.raw hq4).mono hdz) (by decide)) ?_; rintro _ H5 ⟨hl5, rfl⟩; refine vr 2 ?_; refine vco_k [8] ?_; refine vc_ret ⟨.inr rfl, _, .tmp rfl (.nil), ?_⟩; exact ⟨hl3.trans (hl4.trans hl5), _, rfl, by rw [decide_eq_true_iff, sgn_lt, hcl]; exact ⟨fun h => ⟨hpf, hcl, hrl, hpf.meets, ⟨hab, fun k hk => hal k (Nat.lt_of_lt_of_le hk hb)⟩, h⟩, fun h => h.cert.neg⟩⟩
   ·
    skip
    refine vco_cmp true rfl rfl (cne_t (by omega)) ?_; refine vr 7 ?_; refine vco_k [1, 3, 4, 36] ?_; refine vc_cond_t rfl ?_; refine vc_sr ?_; refine vr 1 ?_; refine vco_k [8] ?_; refine vc_ret ⟨.inr rfl, _, .tmp rfl (.nil), ?_⟩; exact ⟨hl1, false, rfl, ⟨(fun h => by cases h), fun h => absurd h.rlen hrl⟩⟩
  ·
   skip
   refine vco_cmp true rfl rfl (cne_t (by omega)) ?_; refine vr 15 ?_; refine vco_k [1, 3, 4, 36] ?_; refine vc_cond_t rfl ?_; refine vc_sr ?_; refine vr 1 ?_; refine vco_k [8] ?_; refine vc_ret ⟨.inr rfl, _, .tmp rfl (.nil), ?_⟩; exact ⟨hl1, false, rfl, ⟨(fun h => by cases h), fun h => absurd h.clen hcl⟩⟩
end Go.Eng
