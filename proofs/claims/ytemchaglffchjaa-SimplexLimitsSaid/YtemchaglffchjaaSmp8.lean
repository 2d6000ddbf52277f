/- Walks over package simplex, simplex.go, part 8: Check. -/
import Derived.Test.YtemchaglffchjaaA10
import Derived.Test.YtemchaglffchjaaSmp7
set_option linter.unusedVariables false
namespace Go.Eng
open Go.Proofs Num Lp
theorem Check_ok {H : Heap} {v cv xv dv rv u w : Value} {f : Bool} {p : Prg} {c : List Rat} {S : Soln} {N : Nat} (hp : ProgV N H v p) (hc : SlV (RatP N) 3 H cv c) (hq : RawV H (.agg #[.bool f, u, w]) S.value N) (hx : SlV (RatP N) 3 H xv S.x) (hd : SlV (RatP N) 3 H dv S.dual) (hr : SlV (RatP N) 3 H rv S.ray) (hxN : (S.x.length : Int) ≤ 1099511627776) (hN : N ≤ 400000000) :
  Fn Try.prog 14 #[v, cv, .agg #[.int .i64 S.status, .bool f, u, w, xv, dv, rv]] H (fun v H' => Heap.le H H' ∧ ∃ b, v = .bool b ∧ (b = true ↔ Chk p c S)) := by
 obtain ⟨fv, rv0, rfl, hfv, hrv0⟩ := id hp
 obtain ⟨Af, cf, xf, rfl, hrF, hxF⟩ := hfv.one
 obtain ⟨Ar, cr, xr, rfl, hrR, hxR⟩ := hrv0.row
 obtain ⟨Ac, cc, xc, rfl, hrC, hxC⟩ := hc.rat
 obtain ⟨Ax, cx, xx, rfl, hrX, hxX⟩ := hx.rat
 obtain ⟨Ad, cd, xd, rfl, hrD, hxD⟩ := hd.rat
 obtain ⟨Ay, cy, xy, rfl, hrY, hxY⟩ := hr.rat
 obtain ⟨f', u', w', l1, l2, k1, k2, k3, _⟩ := id hq
 obtain ⟨A1, c1, rfl, _⟩ := k2
 obtain ⟨A2, c2, rfl, _⟩ := k3
 obtain ⟨rfl, rfl, rfl⟩ : f = f' ∧ u = _ ∧ w = _ := by simpa using k1
 refine fn_intro (args := [_, _, _]) Try.func14 rfl rfl Try.ntmps14 rfl rfl fun w0 => ?_; refine vc_keep [0, 1, 2] rfl ?_; refine vc_sr ?_; refine vco_box rfl rfl ?_; refine vco_box rfl rfl ?_; refine vr 1 ?_; refine vco_k [1, 3, 5] ?_; refine vc_seq ?_
 by_cases hok : p.Ok
 ·
  skip
  by_cases hcl : c.length = p.free.length
  ·
   skip
   refine vc_sr ?_; refine vr 1 ?_; refine vco_call rfl rfl (Valid_yes hp hok) ?_; rintro v1 H1 ⟨e1, rfl⟩; rw [e1]; refine vr 7 ?_; refine vco_cmp false rfl rfl (cne_f (by omega)) ?_; refine vr 1 ?_; refine vco_k [1, 3, 5, 17] ?_; refine vc_cond_f rfl ?_; refine vc_skip ?_; refine vc_keep [1, 3, 5] rfl ?_; refine vc_seq ?_; refine vc_sr ?_; refine vr 2 ?_; refine vco_k [1, 3, 5, 19] ?_; refine vc_block ?_; refine vc_sr ?_; refine vr 2 ?_; refine vco_k [1, 3, 5, 19, 20] ?_; refine vc_cond rfl (fun hb => ?_) (fun hb => ?_)
   ·
    have hst : S.status = 1 := by simpa using hb
    have hn4 := hok.cols; refine vc_seq ?_
    by_cases hray : S.ray.length = 0
    ·
     skip
     by_cases hopt : ChkOpt p c S.x S.dual
     ·
      skip
      refine vc_sr ?_; refine vr 3 ?_; refine vco_cmp false rfl rfl (cgt_f (by omega)) ?_; refine vr 7 ?_; refine vco_call rfl rfl (Fn.yes (CheckOptimal_ok hp hc hx hd hxN hN) hopt) ?_; rintro v2 H2 ⟨hl2, rfl⟩; have hxl := hopt.feas.len; refine vr 2 ?_; refine vco_k [1, 5, 35] ?_; refine vc_cond_f rfl ?_; refine vc_skip ?_; refine vc_keep [1, 5] rfl ?_; refine vc_sd .drawB [0, 2, 3, 6, 7, 1, 4, 5, 8, 9, 10, 11, 12] follows (by kernel_rfl) ?_; refine vr 5 ?_; refine vco_callM rfl rfl (svector_ok (hc.le (ratUp N) hl2) (by omega) (by omega)) (fun _ _ h => by first | exact h.le | exact h.1) ?_; rintro v8 H8 ⟨hl8, hs8⟩; refine vco_callM rfl rfl (svector_ok (hx.le (ratUp N) (hl2.trans hl8)) (by omega) (by omega)) (fun _ _ h => by first | exact h.le | exact h.1) ?_; rintro v9 H9 ⟨hl9, hs9⟩; refine vco_callM rfl rfl (sdot_ok (s := N + 2) (hs8.le numUp hl9) hs9 (by omega) hc.rsize hx.rsize (by rw [hcl]; have h9 : ((p.free.length : Int) + 2) * (2 * ((N + 2 : Nat) : Int) + 2) ≤ 402 * (2 * ((N + 2 : Nat) : Int) + 2) := Int.mul_le_mul_of_nonneg_right (by omega) (by omega); omega)) (fun _ _ h => by first | exact h.le | exact h.1) ?_; rintro _ H10 ⟨hl10, vs10, rfl, hn10⟩; obtain ⟨n10, d10, b10, rfl⟩ := hn10.cells; have hsz10 := dot_sz (M := N + 2) c.length (fn c) (fn S.x) (fun j hj => hc.rsize _ (fn_mem hj)) (fun j hj => hx.rsize _ (fn_mem (by omega))); have hsz11 : c.length * (2 * (N + 2) + 2) ≤ 400 * (2 * (N + 2) + 2) := Nat.mul_le_mul_right _ (by omega)
      refine vco_callM rfl rfl (sload_ok (hq.le (((hl2.trans hl8).trans hl9).trans hl10)) (by omega)) (fun _ _ h => by first | exact h.le | exact h.1) ?_; rintro _ H11 ⟨hl11, vs11, rfl, hn11⟩; obtain ⟨n11, d11, b11, rfl⟩ := hn11.cells; have hszq := hq.size; refine vco_callM rfl rfl (ssub_ok (N := 400 * (2 * (N + 2) + 2) + 1) (hn10.le hl11) hn11 (by omega) (by omega) (by omega)) (fun _ _ h => by first | exact h.le | exact h.1) ?_; rintro _ H12 ⟨hl12, vs12, rfl, hn12⟩; obtain ⟨n12, d12, b12, rfl⟩ := hn12.cells; have hszs := szQ_sub (dotN c.length (fn c) (fn S.x)) S.value; refine vco_callM rfl rfl (ssign_ok hn12 (by omega)) (fun _ _ h => by first | exact h.le | exact h.1) ?_; rintro v13 H13 ⟨hl13, rfl⟩; refine vr 2 ?_; refine vco_k [6] ?_; refine vc_ret ⟨.inr rfl, _, .tmp rfl (.nil), ?_⟩; exact ⟨((((((hl2.trans hl8).trans hl9).trans hl10).trans hl11).trans hl12).trans hl13), _, rfl, by simp only [beq_iff_eq, sgn_eq]; rw [hcl]; exact ⟨fun h => .inl ⟨hst, List.eq_nil_of_length_eq_zero hray, hopt, by grind⟩, fun h => by have h9 := (Chk.at1 h hst).2.2; grind⟩⟩
     ·
      skip
      refine vc_sr ?_; refine vr 3 ?_; refine vco_cmp false rfl rfl (cgt_f (by omega)) ?_; refine vr 7 ?_; refine vco_call rfl rfl (Fn.no (CheckOptimal_ok hp hc hx hd hxN hN) hopt) ?_; rintro v2 H2 ⟨hl2, rfl⟩; refine vr 2 ?_; refine vco_k [1, 5, 35] ?_; refine vc_cond_t rfl ?_; refine vc_sr ?_; refine vr 1 ?_; refine vco_k [6] ?_; refine vc_ret ⟨.inr rfl, _, .tmp rfl (.nil), ?_⟩; exact ⟨hl2, false, rfl, ⟨(fun h => by cases h), (fun h => absurd (Chk.at1 h hst).2.1 hopt)⟩⟩
    ·
     skip
     refine vc_sr ?_; refine vr 3 ?_; refine vco_cmp true rfl rfl (cgt_t (by omega)) ?_; refine vr 10 ?_; refine vco_k [1, 5, 35] ?_; refine vc_cond_t rfl ?_; refine vc_sr ?_; refine vr 1 ?_; refine vco_k [6] ?_; refine vc_ret ⟨.inr rfl, _, .tmp rfl (.nil), ?_⟩; exact ⟨.refl _, false, rfl, ⟨(fun h => by cases h), (fun h => by have h9 := (Chk.at1 h hst).1; rw [h9] at hray; simp at hray)⟩⟩
   ·
    have hst1 : ¬ S.status = 1 := by simpa using hb
    refine vc_sr ?_; refine vr 2 ?_; refine vco_k [1, 3, 5, 19, 48] ?_; refine vc_cond rfl (fun hb => ?_) (fun hb => ?_)
    ·
     have hst : S.status = 2 := by simpa using hb
     by_cases hv0 : S.value = 0
     ·
      skip
      by_cases hx0 : S.x.length = 0
      ·
       skip
       by_cases hray : S.ray.length = 0
       ·
        skip
        refine vc_sr ?_; refine vr 2 ?_; refine vco_call rfl rfl (Sign_ok hq (by omega)) ?_; rintro v2 H2 ⟨hl2, rfl⟩; refine vco_cmp true rfl rfl (ceq_t (sgn_eq.2 hv0)) ?_; refine vr 4 ?_; refine vco_cmp true rfl rfl (ceq_t (by omega)) ?_; refine vr 5 ?_; refine vco_cmp true rfl rfl (ceq_t (by omega)) ?_; refine vr 5 ?_; refine vco_call rfl rfl (CheckInfeasible_ok (hp.le hl2) (hd.le (ratUp N) hl2) (by omega)) ?_; rintro v3 H3 ⟨hl3, b3, rfl, hb3⟩; refine vr 2 ?_; refine vco_k [6] ?_; refine vc_ret ⟨.inr rfl, _, .tmp rfl (.nil), ?_⟩; exact ⟨hl2.trans hl3, b3, rfl, ⟨(fun h => .inr (.inl ⟨hst, hv0, List.eq_nil_of_length_eq_zero hx0, List.eq_nil_of_length_eq_zero hray, hcl, hb3.1 h⟩)), (fun h => hb3.2 (Chk.at2 h hst).2.2.2.2)⟩⟩
       ·
        skip
        refine vc_sr ?_; refine vr 2 ?_; refine vco_call rfl rfl (Sign_ok hq (by omega)) ?_; rintro v2 H2 ⟨hl2, rfl⟩; refine vco_cmp true rfl rfl (ceq_t (sgn_eq.2 hv0)) ?_; refine vr 4 ?_; refine vco_cmp true rfl rfl (ceq_t (by omega)) ?_; refine vr 5 ?_; refine vco_cmp false rfl rfl (ceq_f (by omega)) ?_; refine vr 8 ?_; refine vco_k [6] ?_; refine vc_ret ⟨.inr rfl, _, .tmp rfl (.nil), ?_⟩; exact ⟨hl2, false, rfl, ⟨(fun h => by cases h), (fun h => by have h9 := (Chk.at2 h hst).2.2.1; rw [h9] at hray; simp at hray)⟩⟩
      ·
       skip
       refine vc_sr ?_; refine vr 2 ?_; refine vco_call rfl rfl (Sign_ok hq (by omega)) ?_; rintro v2 H2 ⟨hl2, rfl⟩; refine vco_cmp true rfl rfl (ceq_t (sgn_eq.2 hv0)) ?_; refine vr 4 ?_; refine vco_cmp false rfl rfl (ceq_f (by omega)) ?_; refine vr 14 ?_; refine vco_k [6] ?_; refine vc_ret ⟨.inr rfl, _, .tmp rfl (.nil), ?_⟩; exact ⟨hl2, false, rfl, ⟨(fun h => by cases h), (fun h => by have h9 := (Chk.at2 h hst).2.1; rw [h9] at hx0; simp at hx0)⟩⟩
     ·
      skip
      refine vc_sr ?_; refine vr 2 ?_; refine vco_call rfl rfl (Sign_ok hq (by omega)) ?_; rintro v2 H2 ⟨hl2, rfl⟩; refine vco_cmp false rfl rfl (ceq_f (fun e => hv0 (sgn_eq.1 e))) ?_; refine vr 19 ?_; refine vco_k [6] ?_; refine vc_ret ⟨.inr rfl, _, .tmp rfl (.nil), ?_⟩; exact ⟨hl2, false, rfl, ⟨(fun h => by cases h), (fun h => absurd (Chk.at2 h hst).1 hv0)⟩⟩
    ·
     have hst2 : ¬ S.status = 2 := by simpa using hb
     refine vc_sr ?_; refine vr 2 ?_; refine vco_k [1, 3, 5, 72] ?_; refine vc_cond rfl (fun hb => ?_) (fun hb => ?_)
     ·
      have hst : S.status = 3 := by simpa using hb
      by_cases hv0 : S.value = 0
      ·
       skip
       by_cases hd0 : S.dual.length = 0
       ·
        skip
        refine vc_sr ?_; refine vr 2 ?_; refine vco_call rfl rfl (Sign_ok hq (by omega)) ?_; rintro v2 H2 ⟨hl2, rfl⟩; refine vco_cmp true rfl rfl (ceq_t (sgn_eq.2 hv0)) ?_; refine vr 4 ?_; refine vco_cmp true rfl rfl (ceq_t (by omega)) ?_; refine vr 8 ?_; refine vco_call rfl rfl (CheckUnbounded_ok (hp.le hl2) (hc.le (ratUp N) hl2) (hx.le (ratUp N) hl2) (hr.le (ratUp N) hl2) hxN hN) ?_; rintro v3 H3 ⟨hl3, b3, rfl, hb3⟩; refine vr 2 ?_; refine vco_k [6] ?_; refine vc_ret ⟨.inr rfl, _, .tmp rfl (.nil), ?_⟩; exact ⟨hl2.trans hl3, b3, rfl, ⟨(fun h => .inr (.inr ⟨hst, hv0, List.eq_nil_of_length_eq_zero hd0, hb3.1 h⟩)), (fun h => hb3.2 (Chk.at3 h hst).2.2)⟩⟩
       ·
        skip
        refine vc_sr ?_; refine vr 2 ?_; refine vco_call rfl rfl (Sign_ok hq (by omega)) ?_; rintro v2 H2 ⟨hl2, rfl⟩; refine vco_cmp true rfl rfl (ceq_t (sgn_eq.2 hv0)) ?_; refine vr 4 ?_; refine vco_cmp false rfl rfl (ceq_f (by omega)) ?_; refine vr 11 ?_; refine vco_k [6] ?_; refine vc_ret ⟨.inr rfl, _, .tmp rfl (.nil), ?_⟩; exact ⟨hl2, false, rfl, ⟨(fun h => by cases h), (fun h => by have h9 := (Chk.at3 h hst).2.1; rw [h9] at hd0; simp at hd0)⟩⟩
      ·
       skip
       refine vc_sr ?_; refine vr 2 ?_; refine vco_call rfl rfl (Sign_ok hq (by omega)) ?_; rintro v2 H2 ⟨hl2, rfl⟩; refine vco_cmp false rfl rfl (ceq_f (fun e => hv0 (sgn_eq.1 e))) ?_; refine vr 16 ?_; refine vco_k [6] ?_; refine vc_ret ⟨.inr rfl, _, .tmp rfl (.nil), ?_⟩; exact ⟨hl2, false, rfl, ⟨(fun h => by cases h), (fun h => absurd (Chk.at3 h hst).1 hv0)⟩⟩
     ·
      have hst3 : ¬ S.status = 3 := by simpa using hb
      refine vc_skip ?_; refine vc_keep [] rfl ?_; refine vc_sr ?_; refine vr 1 ?_; refine vco_k [6] ?_; refine vc_ret ⟨.inr rfl, _, .tmp rfl (.nil), ?_⟩; exact ⟨.refl _, false, rfl, ⟨(fun h => by cases h), (fun h => by rcases h with ⟨h1, _⟩ | ⟨h1, _⟩ | ⟨h1, _⟩ <;> omega)⟩⟩
  ·
   skip
   refine vc_sr ?_; refine vr 1 ?_; refine vco_call rfl rfl (Valid_yes hp hok) ?_; rintro v1 H1 ⟨e1, rfl⟩; rw [e1]; refine vr 7 ?_; refine vco_cmp true rfl rfl (cne_t (by omega)) ?_; refine vr 1 ?_; refine vco_k [1, 3, 5, 17] ?_; refine vc_cond_t rfl ?_; refine vc_sr ?_; refine vr 1 ?_; refine vco_k [6] ?_; refine vc_ret ⟨.inr rfl, _, .tmp rfl (.nil), ?_⟩; exact ⟨.refl _, false, rfl, ⟨(fun h => by cases h), (fun h => absurd (Chk.ok h).2 hcl)⟩⟩
 ·
  skip
  refine vc_sr ?_; refine vr 1 ?_; refine vco_call rfl rfl (Valid_no hp hok) ?_; rintro v1 H1 ⟨e1, rfl⟩; rw [e1]; refine vr 9 ?_; refine vco_k [1, 3, 5, 17] ?_; refine vc_cond_t rfl ?_; refine vc_sr ?_; refine vr 1 ?_; refine vco_k [6] ?_; refine vc_ret ⟨.inr rfl, _, .tmp rfl (.nil), ?_⟩; exact ⟨.refl _, false, rfl, ⟨(fun h => by cases h), (fun h => absurd (Chk.ok h).1 hok)⟩⟩
end Go.Eng
