/- EntailHolds, EntailSound: the laws' walks. -/
import Derived.Test.YtbbjgagpbffooaaGreatA10
import Derived.Test.YtbbjgagpbffooaaGreatEf2
import Derived.Test.YtbbjgagpbffooaaGreatEh1
set_option linter.unusedVariables false
namespace Go.Eng
open Go.Proofs Num Lp
theorem _root_.Lp.HoldsE.facts {fs : List Lin} {vs : List Int} {ys : List Rat} (h : HoldsE fs vs ys) : ∀ i, i < fs.length → 0 ≤ (nth fs i).eval (asg vs ys) := fun i hi => (h.all i _ (nth_some hi)).2
theorem Ent.sound2 {fs : List Lin} {g : Lin} (h : Imp fs g) (hf : FactsOk fs) (hg : LinOk g) {vs : List Int} {ys : List Rat} (hh : HoldsE fs vs ys) : 0 ≤ g.eval (asg vs ys) := h.sound hf.ok hg _ hh.facts
theorem holds24_ok {H : Heap} {v vv yv : Value} {fs : List Lin} {vs : List Int} {ys : List Rat} {N : Nat} (hv : FmV H v fs) (hvs : SlV IntP 1 H vv vs) (hys : SlV (RatP N) 3 H yv ys) :
  Fn Tryz.prog 13 #[v, vv, yv] H (fun v' H' => Heap.le H H' ∧ v' = .bool true) := by
 obtain ⟨A, c, xs, rfl, hc, hr, hx⟩ := id hv
 obtain ⟨Av, cv, xv, rfl, hcv, hrv, hxv⟩ := id hvs
 obtain ⟨Ay, cy, xy, rfl, hcy, hry, hxy⟩ := id hys; refine fn_intro (args := [_, _, _]) Tryz.func13 rfl rfl Tryz.ntmps13 rfl rfl fun w0 => ?_; refine vc_keep [0, 1, 2] rfl ?_; refine vc_sr ?_; refine vr 1 ?_; refine vco_k [0, 1, 2] ?_; refine vc_seq ?_; refine vc_sr ?_; refine vco_call rfl rfl (sane24_ok) ?_; rintro _ H1 ⟨hl1, rfl⟩; refine vr 1 ?_; refine vco_k [0, 1, 2, 8] ?_; refine vc_cond_f rfl ?_; refine vc_skip ?_; refine vc_keep [0, 1, 2] rfl ?_; refine vc_seq ?_; refine vc_sr ?_; refine vr 1 ?_; refine vco_call rfl rfl (kept24_ok (gs := []) (hv.le formUp hl1) SlV.nil) ?_; rintro _ H2 ⟨e2, b2, rfl, hb2⟩; rw [e2]
 cases b2
 ·
  skip
  refine vr 11 ?_; refine vco_k [0, 1, 2, 21] ?_; refine vc_cond_t rfl ?_; refine vc_sr ?_; refine vr 1 ?_; refine vco_k [6] ?_; refine vc_ret ⟨.inr rfl, _, .tmp rfl (.nil), ?_⟩; exact ⟨hl1, rfl⟩
 ·
  skip
  refine vr 4 ?_
  by_cases h8 : 8 < vs.length
  ·
   skip
   refine vco_cmp true rfl rfl (cgt_t (by omega)) ?_; refine vr 6 ?_; refine vco_k [0, 1, 2, 21] ?_; refine vc_cond_t rfl ?_; refine vc_sr ?_; refine vr 1 ?_; refine vco_k [6] ?_; refine vc_ret ⟨.inr rfl, _, .tmp rfl (.nil), ?_⟩; exact ⟨hl1, rfl⟩
  ·
   skip
   refine vco_cmp false rfl rfl (cgt_f (by omega)) ?_; refine vr 3 ?_; refine vco_call rfl rfl (kRats_ok (n := 8) (hys.le (ratUp N) hl1) (by decide)) ?_; rintro _ H3 ⟨e3, b3, rfl, hb3⟩; rw [e3]; refine vr 2 ?_; refine vco_k [0, 1, 2, 21] ?_; refine vc_cond rfl (fun hb => ?_) (fun hb => ?_)
   ·
    skip
    refine vc_sr ?_; refine vr 1 ?_; refine vco_k [6] ?_; refine vc_ret ⟨.inr rfl, _, .tmp rfl (.nil), ?_⟩; exact ⟨hl1, rfl⟩
   ·
    have hk3 := hb3 (by simpa using hb); refine vc_skip ?_; refine vc_keep [0, 1, 2] rfl ?_; refine vc_sr ?_; refine vr 3 ?_; refine vco_call rfl rfl (eholds_ok (N := 2) (hv.le formUp hl1) (hvs.le intUp hl1) hk3.2 (by decide) (by omega)) ?_; rintro _ H4 ⟨hl4, b4, rfl, hb4⟩; have h04 := hl1.trans hl4; refine vr 3 ?_; refine vco_call rfl rfl (rholds_ok (N := 2) (hv.le formUp h04) (hvs.le intUp h04) (hk3.2.le (ratUp 2) hl4) (by decide) (by omega)) ?_; rintro _ H5 ⟨hl5, b5, rfl, hb5⟩; refine vco_eqb Tryz.underlying4 rfl rfl ?_; refine vr 1 ?_; refine vco_k [6] ?_; refine vc_ret ⟨.inr rfl, _, .tmp rfl (.nil), ?_⟩; exact ⟨h04.trans hl5, congrArg Value.bool (beq_iff_eq.2 (Bool.eq_iff_iff.2 (hb4.trans hb5.symm)))⟩
theorem sound24_ok {H : Heap} {v vv yv : Value} {fs : List Lin} {vs : List Int} {ys : List Rat} {goal : Lin} {A0 : Option Addr} {c0 N : Nat} (hv : FmV H v fs) (hvs : SlV IntP 1 H vv vs) (hys : SlV (RatP N) 3 H yv ys) (hgl : SlV TermP 2 H (.slice A0 goal.ts.length c0) goal.ts) :
  Fn Tryz.prog 14 #[v, .agg #[.int .i64 goal.c, .slice A0 goal.ts.length c0], vv, yv] H (fun v' H' => Heap.le H H' ∧ v' = .bool true) := by
 obtain ⟨A, c, xs, rfl, hc, hr, hx⟩ := id hv
 obtain ⟨Av, cv, xv, rfl, hcv, hrv, hxv⟩ := id hvs
 obtain ⟨Ay, cy, xy, rfl, hcy, hry, hxy⟩ := id hys; refine fn_intro (args := [_, _, _, _]) Tryz.func14 rfl rfl Tryz.ntmps14 rfl rfl fun w0 => ?_; refine vc_keep [0, 1, 2, 3] rfl ?_; refine vc_sr ?_; refine vco_box rfl rfl ?_; refine vr 1 ?_; refine vco_k [0, 2, 3, 5] ?_; refine vc_seq ?_; refine vc_sr ?_; refine vco_call rfl rfl (sane24_ok) ?_; rintro _ H1 ⟨hl1, rfl⟩; refine vr 1 ?_; refine vco_k [0, 2, 3, 5, 15] ?_; refine vc_cond_f rfl ?_; refine vc_skip ?_; refine vc_keep [0, 2, 3, 5] rfl ?_; refine vc_seq ?_; refine vc_sr ?_; refine vr 2 ?_; refine vco_build Tryz.underlying22 el25 rfl rfl rfl rfl rfl rfl rfl ?_; intro gb hgb; obtain ⟨hl2, hm2⟩ := fm_one hgb (hgl.le termUp hl1); have h02 := hl1.trans hl2; refine vco_call rfl rfl (usable_ok (gs := [goal]) (hv.le formUp h02) hm2 (by simp)) ?_; rintro _ H3 ⟨hl3, b3, rfl, hb3⟩; have h03 := h02.trans hl3
 cases b3
 ·
  skip
  refine vr 11 ?_; refine vco_k [0, 2, 3, 5, 30] ?_; refine vc_cond_t rfl ?_; refine vc_sr ?_; refine vr 1 ?_; refine vco_k [8] ?_; refine vc_ret ⟨.inr rfl, _, .tmp rfl (.nil), ?_⟩; exact ⟨h03, rfl⟩
 ·
  skip
  refine vr 4 ?_
  by_cases h8 : 8 < vs.length
  ·
   skip
   refine vco_cmp true rfl rfl (cgt_t (by omega)) ?_; refine vr 6 ?_; refine vco_k [0, 2, 3, 5, 30] ?_; refine vc_cond_t rfl ?_; refine vc_sr ?_; refine vr 1 ?_; refine vco_k [8] ?_; refine vc_ret ⟨.inr rfl, _, .tmp rfl (.nil), ?_⟩; exact ⟨h03, rfl⟩
  ·
   skip
   refine vco_cmp false rfl rfl (cgt_f (by omega)) ?_; refine vr 3 ?_; refine vco_call rfl rfl (kRats_ok (n := 8) (hys.le (ratUp N) h03) (by decide)) ?_; rintro _ H4 ⟨e4, b4, rfl, hb4⟩; rw [e4]; refine vr 2 ?_; refine vco_k [0, 2, 3, 5, 30] ?_; refine vc_cond rfl (fun hb => ?_) (fun hb => ?_)
   ·
    skip
    refine vc_sr ?_; refine vr 1 ?_; refine vco_k [8] ?_; refine vc_ret ⟨.inr rfl, _, .tmp rfl (.nil), ?_⟩; exact ⟨h03, rfl⟩
   ·
    have hk4 := hb4 (by simpa using hb); have hu := hb3.1 rfl; have hfo := hu.ok; have hgo := hu.val 0 goal rfl; refine vc_skip ?_; refine vc_keep [0, 2, 3, 5] rfl ?_; refine vc_sr ?_; refine vr 2 ?_; refine vco_call rfl rfl (impU_ok (hv.le formUp h03) (hgl.le termUp h03) hfo hgo (hu.few goal)) ?_; rintro _ H5 ⟨hl5, A5, k5, c5, b5, rfl, hb5⟩; have h05 := h03.trans hl5; refine vr 7 ?_; refine vco_k [0, 2, 3, 5, 10, 11] ?_; refine vc_seq ?_; refine vc_sr ?_; refine vr 1 ?_; refine vco_cmp false rfl rfl (cne_f rfl) ?_; refine vco_k [0, 2, 3, 5, 10, 39] ?_; refine vc_cond_f rfl ?_; refine vc_skip ?_; refine vc_keep [0, 2, 3, 5, 10] rfl ?_; refine vc_seq ?_
    cases b5
    ·
     skip
     refine vc_sr ?_; refine vr 9 ?_; refine vco_k [2, 3, 5, 48] ?_; refine vc_cond_t rfl ?_; refine vc_sr ?_; refine vr 1 ?_; refine vco_k [8] ?_; refine vc_ret ⟨.inr rfl, _, .tmp rfl (.nil), ?_⟩; exact ⟨h05, rfl⟩
    ·
     skip
     refine vc_sr ?_; refine vr 6 ?_; refine vco_call rfl rfl (eholds_ok (N := 2) (hv.le formUp h05) (hvs.le intUp h05) (hk4.2.le (ratUp 2) hl5) (by decide) (by omega)) ?_; rintro _ H6 ⟨hl6, b6, rfl, hb6⟩; have h06 := h05.trans hl6; refine vr 2 ?_; refine vco_k [2, 3, 5, 48] ?_; refine vc_cond rfl (fun hb => ?_) (fun hb => ?_)
     ·
      skip
      refine vc_sr ?_; refine vr 1 ?_; refine vco_k [8] ?_; refine vc_ret ⟨.inr rfl, _, .tmp rfl (.nil), ?_⟩; exact ⟨h06, rfl⟩
     ·
      have hh := hb6.1 (by simpa using hb); refine vc_skip ?_; refine vc_keep [2, 3, 5] rfl ?_; refine vc_sr ?_; refine vr 3 ?_; refine vco_call rfl rfl (rvalueof_ok (N := 2) (hgl.le termUp h06) (hvs.le intUp h06) (hk4.2.le (ratUp 2) (hl5.trans hl6)) (by decide) (by omega) hh.len hh.asc hgo) ?_; rintro _ H7 ⟨hl7, t7, b7, q7, rfl, hb7, hraw7, hq7⟩; have h07 := h06.trans hl7; refine vr 3 ?_; refine vco_alloc el36 rfl ?_; obtain ⟨ti, hti, htz⟩ := sz36; refine vco_bstore (.inl ⟨rfl, rfl⟩) rfl rfl rfl hti htz rfl rfl rfl ?_; refine vr 1 ?_; refine vco_k [12, 13] ?_
      cases b7
      ·
       skip
       refine vc_sr ?_; refine vr 8 ?_; refine vco_k [8] ?_; refine vc_ret ⟨.inr rfl, _, .tmp rfl (.nil), ?_⟩; exact ⟨h07, rfl⟩
      ·
       skip
       refine vc_sr ?_; refine vr 4 ?_; refine vco_call rfl rfl (rSign_ok (N := 1000000000000) hraw7 (by decide)) ?_; rintro _ H8 ⟨hl8, rfl⟩; refine vr 3 ?_; refine vco_k [8] ?_; refine vc_ret ⟨.inr rfl, _, .tmp rfl (.nil), ?_⟩; exact ⟨h07.trans hl8, congrArg Value.bool (decide_eq_true (sgn_ge.2 (by rw [hq7 rfl]; exact Ent.sound2 (hb5.1 rfl) hfo hgo hh)))⟩
end Go.Eng
