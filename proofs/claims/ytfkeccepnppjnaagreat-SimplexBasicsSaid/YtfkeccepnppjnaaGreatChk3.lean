/- Walks over package amortcostref22, part 3: Check. -/
import Derived.Test.YtfkeccepnppjnaaGreatA11
import Derived.Test.YtfkeccepnppjnaaGreatChk2
set_option linter.unusedVariables false
namespace Go.Eng
open Go.Proofs Num Lp
theorem rCheck_ok {H : Heap} {v cv xv dv rv : Value} {t : RC} {p : Prg} {c : List Rat} {S : Soln} {N : Nat} (hp : ProgV N H v p) (hc : SlV (RatP N) 3 H cv c) (hq : RawV H t.v S.value N) (hx : SlV (RatP N) 3 H xv S.x) (hd : SlV (RatP N) 3 H dv S.dual) (hr : SlV (RatP N) 3 H rv S.ray) (hN : N ≤ 400000000) :
  Fn Tryz.prog 25 #[v, cv, .agg #[.int .i64 S.status, .bool t.f, .slice t.A1 t.m1 t.c1, .slice t.A2 t.m2 t.c2, xv, dv, rv]] H (fun v H' => Heap.le H H' ∧ ∃ b, v = .bool b ∧ (b = true ↔ Chk p c S)) := by
 obtain ⟨fv, rv0, rfl, hfv, hrv0⟩ := id hp
 obtain ⟨Af, cf, xf, rfl, hrF, hxF⟩ := hfv.one
 obtain ⟨Ar, cr, xr, rfl, hcr, hrR, hxR⟩ := hrv0
 obtain ⟨AC, cC, xC, rfl, hcC, hrC, hxC⟩ := id hc
 have hcz := hc.rsize
 obtain ⟨AX, cX, xX, rfl, hcX, hrX, hxX⟩ := id hx
 have hxz := hx.rsize
 obtain ⟨AD, cD, xD, rfl, hcD, hrD, hxD⟩ := id hd
 have hdz := hd.rsize
 obtain ⟨AR, cR, xR, rfl, hcR, hrR, hxR⟩ := id hr
 have hrz := hr.rsize
 refine fn_intro (args := [_, _, _]) Tryz.func25 rfl rfl Tryz.ntmps25 rfl rfl fun w0 => ?_
 refine vc_keep [0, 1, 2] rfl ?_
 refine vc_sr ?_
 refine vco_box rfl rfl ?_
 refine vco_box rfl rfl ?_
 refine vco_run tbOk 1 rfl ?_
 refine vco_k [1, 3, 5] ?_
 refine vc_seq ?_
 refine vc_sr ?_
 refine vco_run tbOk 2 rfl ?_
 refine vco_k [1, 3, 5, 8] ?_
 refine vc_block ?_
 refine vc_sr ?_
 refine vco_run tbOk 2 rfl ?_
 refine vco_k [1, 3, 5, 8, 9] ?_
 refine vc_cond rfl (fun hb => ?_) (fun hb => ?_)
 ·
  have hst : S.status = 1 := by simpa using hb
  by_cases hr0 : S.ray.length = 0
  ·
   skip
   refine vc_sd .drawB [0, 1, 2, 3, 4, 5, 6, 7, 8, 9, 10, 11, 12, 13, 14, 15, 16, 17, 18, 19, 20, 21, 22, 23] follows (by kernel_rfl) ?_
   refine vco_run tbOk 3 rfl ?_
   refine vco_cmp true rfl rfl (ceq_t (by omega)) ?_
   refine vco_run tbOk 7 rfl ?_
   refine vco_callM rfl rfl (rCheckOptimal_ok hp hc hx hd hN) (fun _ _ h => by first | exact h.le | exact h.1) ?_
   rintro _ H1 ⟨hl1, b1, rfl, hb1⟩
   cases b1
   ·
    skip
    refine vco_run tbOk 12 rfl ?_
    refine vco_k [6] ?_
    refine vc_ret ⟨.inr rfl, _, .tmp rfl (.nil), ?_⟩
    exact ⟨hl1, false, rfl, ⟨(fun h => by cases h), fun h => by rcases h with h | h | h <;> first | (exact absurd h.1 (by omega)) | (have h9 := hb1.2 h.2.2.1; cases h9)⟩⟩
   ·
    skip
    refine vco_run tbOk 2 rfl ?_
    have hco := hb1.1 rfl
    have hcl := hco.clen
    have hxl := hco.feas.len
    have hn4 := hco.feas.ok.cols
    have hdz := dot_sz9 hcz hxz (by omega) (by omega) hN
    refine vco_run tbOk 5 rfl ?_
    refine vco_callM rfl rfl (rDot_ok (hc.le (ratUp N) hl1) (hx.le (ratUp N) hl1) (by omega) (by omega) hN) (fun _ _ h => by first | exact h.le | exact h.1) ?_
    rintro _ H2 ⟨hl2, t2, rfl, hq2⟩
    refine vco_callM rfl rfl (rCmp_ok (N := 900000000000) (((hq.mono (by omega)).le hl1).le hl2) ((CanV.raw hq2).mono hdz) (by decide)) (fun _ _ h => by first | exact h.le | exact h.1) ?_
    rintro _ H3 ⟨hl3, rfl⟩
    refine vco_run tbOk 3 rfl ?_
    refine vco_k [6] ?_
    refine vc_ret ⟨.inr rfl, _, .tmp rfl (.nil), ?_⟩
    exact ⟨hl1.trans (hl2.trans hl3), _, rfl, by rw [beq_iff_eq, cmp_eq, hcl]; exact ⟨fun h => .inl ⟨hst, List.eq_nil_of_length_eq_zero hr0, hco, h⟩, fun h => by rcases h with h | h | h <;> first | (exact absurd h.1 (by omega)) | exact h.2.2.2⟩⟩
  ·
   skip
   refine vc_sd .drawB [0, 1, 2, 3, 4, 5, 6, 7, 8, 9, 10, 11, 12, 13, 14, 15, 16, 17, 18, 19, 20, 21, 22, 23] follows (by kernel_rfl) ?_
   refine vco_run tbOk 3 rfl ?_
   refine vco_cmp false rfl rfl (ceq_f (by omega)) ?_
   refine vco_run tbOk 20 rfl ?_
   refine vco_k [6] ?_
   refine vc_ret ⟨.inr rfl, _, .tmp rfl (.nil), ?_⟩
   exact ⟨.refl _, false, rfl, ⟨(fun h => by cases h), fun h => by rcases h with h | h | h <;> first | (exact absurd h.1 (by omega)) | (exact absurd (congrArg List.length h.2.1) hr0)⟩⟩
 ·
  have hst1 : ¬ S.status = 1 := by simpa using hb
  refine vc_sr ?_
  refine vco_run tbOk 2 rfl ?_
  refine vco_k [1, 3, 5, 8, 34] ?_
  refine vc_cond rfl (fun hb => ?_) (fun hb => ?_)
  ·
   have hst : S.status = 2 := by simpa using hb
   by_cases hx0 : S.x.length = 0
   ·
    skip
    by_cases hr0 : S.ray.length = 0
    ·
     skip
     by_cases hcl : c.length = p.free.length
     ·
      skip
      refine vc_sr ?_
      refine vco_run tbOk 3 rfl ?_
      refine vco_cmp true rfl rfl (ceq_t (by omega)) ?_
      refine vco_run tbOk 4 rfl ?_
      refine vco_cmp true rfl rfl (ceq_t (by omega)) ?_
      refine vco_run tbOk 7 rfl ?_
      refine vco_cmp true rfl rfl (ceq_t (by omega)) ?_
      refine vco_run tbOk 4 rfl ?_
      refine vco_call rfl rfl (rSign_ok hq (by omega)) ?_
      rintro _ H1 ⟨hl1, rfl⟩
      by_cases hv0 : sgnQ S.value = 0
      ·
       skip
       refine vco_cmp true rfl rfl (ceq_t hv0) ?_
       refine vco_run tbOk 5 rfl ?_
       refine vco_call rfl rfl (rCheckInfeasible_ok (hp.le hl1) (hd.le (ratUp N) hl1) hN) ?_
       rintro _ H2 ⟨hl2, b2, rfl, hb2⟩
       refine vco_run tbOk 2 rfl ?_
       refine vco_k [6] ?_
       refine vc_ret ⟨.inr rfl, _, .tmp rfl (.nil), ?_⟩
       exact ⟨hl1.trans hl2, b2, rfl, by rw [hb2]; exact ⟨fun h => .inr (.inl ⟨hst, sgn_eq.1 hv0, List.eq_nil_of_length_eq_zero hx0, List.eq_nil_of_length_eq_zero hr0, hcl, h⟩), fun h => by rcases h with h | h | h <;> first | (exact absurd h.1 (by omega)) | exact h.2.2.2.2.2⟩⟩
      ·
       skip
       refine vco_cmp false rfl rfl (ceq_f hv0) ?_
       refine vco_run tbOk 8 rfl ?_
       refine vco_k [6] ?_
       refine vc_ret ⟨.inr rfl, _, .tmp rfl (.nil), ?_⟩
       exact ⟨hl1, false, rfl, ⟨(fun h => by cases h), fun h => by rcases h with h | h | h <;> first | (exact absurd h.1 (by omega)) | (exact absurd (sgn_eq.2 h.2.1) hv0)⟩⟩
     ·
      skip
      refine vc_sr ?_
      refine vco_run tbOk 3 rfl ?_
      refine vco_cmp true rfl rfl (ceq_t (by omega)) ?_
      refine vco_run tbOk 4 rfl ?_
      refine vco_cmp true rfl rfl (ceq_t (by omega)) ?_
      refine vco_run tbOk 7 rfl ?_
      refine vco_cmp false rfl rfl (ceq_f (by omega)) ?_
      refine vco_run tbOk 14 rfl ?_
      refine vco_k [6] ?_
      refine vc_ret ⟨.inr rfl, _, .tmp rfl (.nil), ?_⟩
      exact ⟨.refl _, false, rfl, ⟨(fun h => by cases h), fun h => by rcases h with h | h | h <;> first | (exact absurd h.1 (by omega)) | (exact absurd h.2.2.2.2.1 hcl)⟩⟩
    ·
     skip
     refine vc_sr ?_
     refine vco_run tbOk 3 rfl ?_
     refine vco_cmp true rfl rfl (ceq_t (by omega)) ?_
     refine vco_run tbOk 4 rfl ?_
     refine vco_cmp false rfl rfl (ceq_f (by omega)) ?_
     refine vco_run tbOk 22 rfl ?_
     refine vco_k [6] ?_
     refine vc_ret ⟨.inr rfl, _, .tmp rfl (.nil), ?_⟩
     exact ⟨.refl _, false, rfl, ⟨(fun h => by cases h), fun h => by rcases h with h | h | h <;> first | (exact absurd h.1 (by omega)) | (exact absurd (congrArg List.length h.2.2.2.1) hr0)⟩⟩
   ·
    skip
    refine vc_sr ?_
    refine vco_run tbOk 3 rfl ?_
    refine vco_cmp false rfl rfl (ceq_f (by omega)) ?_
    refine vco_run tbOk 27 rfl ?_
    refine vco_k [6] ?_
    refine vc_ret ⟨.inr rfl, _, .tmp rfl (.nil), ?_⟩
    exact ⟨.refl _, false, rfl, ⟨(fun h => by cases h), fun h => by rcases h with h | h | h <;> first | (exact absurd h.1 (by omega)) | (exact absurd (congrArg List.length h.2.2.1) hx0)⟩⟩
  ·
   have hst2 : ¬ S.status = 2 := by simpa using hb
   refine vc_sr ?_
   refine vco_run tbOk 2 rfl ?_
   refine vco_k [1, 3, 5, 66] ?_
   refine vc_cond rfl (fun hb => ?_) (fun hb => ?_)
   ·
    have hst : S.status = 3 := by simpa using hb
    by_cases hd0 : S.dual.length = 0
    ·
     skip
     refine vc_sr ?_
     refine vco_run tbOk 3 rfl ?_
     refine vco_cmp true rfl rfl (ceq_t (by omega)) ?_
     refine vco_run tbOk 3 rfl ?_
     refine vco_call rfl rfl (rSign_ok hq (by omega)) ?_
     rintro _ H1 ⟨hl1, rfl⟩
     by_cases hv0 : sgnQ S.value = 0
     ·
      skip
      refine vco_cmp true rfl rfl (ceq_t hv0) ?_
      refine vco_run tbOk 8 rfl ?_
      refine vco_call rfl rfl (rCheckUnbounded_ok (hp.le hl1) (hc.le (ratUp N) hl1) (hx.le (ratUp N) hl1) (hr.le (ratUp N) hl1) hN) ?_
      rintro _ H2 ⟨hl2, b2, rfl, hb2⟩
      refine vco_run tbOk 2 rfl ?_
      refine vco_k [6] ?_
      refine vc_ret ⟨.inr rfl, _, .tmp rfl (.nil), ?_⟩
      exact ⟨hl1.trans hl2, b2, rfl, by rw [hb2]; exact ⟨fun h => .inr (.inr ⟨hst, sgn_eq.1 hv0, List.eq_nil_of_length_eq_zero hd0, h⟩), fun h => by rcases h with h | h | h <;> first | (exact absurd h.1 (by omega)) | exact h.2.2.2⟩⟩
     ·
      skip
      refine vco_cmp false rfl rfl (ceq_f hv0) ?_
      refine vco_run tbOk 11 rfl ?_
      refine vco_k [6] ?_
      refine vc_ret ⟨.inr rfl, _, .tmp rfl (.nil), ?_⟩
      exact ⟨hl1, false, rfl, ⟨(fun h => by cases h), fun h => by rcases h with h | h | h <;> first | (exact absurd h.1 (by omega)) | (exact absurd (sgn_eq.2 h.2.1) hv0)⟩⟩
    ·
     skip
     refine vc_sr ?_
     refine vco_run tbOk 3 rfl ?_
     refine vco_cmp false rfl rfl (ceq_f (by omega)) ?_
     refine vco_run tbOk 16 rfl ?_
     refine vco_k [6] ?_
     refine vc_ret ⟨.inr rfl, _, .tmp rfl (.nil), ?_⟩
     exact ⟨.refl _, false, rfl, ⟨(fun h => by cases h), fun h => by rcases h with h | h | h <;> first | (exact absurd h.1 (by omega)) | (exact absurd (congrArg List.length h.2.2.1) hd0)⟩⟩
   ·
    have hst3 : ¬ S.status = 3 := by simpa using hb
    refine vc_skip ?_
    refine vc_keep [] rfl ?_
    refine vc_sr ?_
    refine vco_run tbOk 1 rfl ?_
    refine vco_k [6] ?_
    refine vc_ret ⟨.inr rfl, _, .tmp rfl (.nil), ?_⟩
    exact ⟨.refl _, false, rfl, ⟨(fun h => by cases h), fun h => by rcases h with h | h | h <;> exact absurd h.1 (by omega)⟩⟩
end Go.Eng
