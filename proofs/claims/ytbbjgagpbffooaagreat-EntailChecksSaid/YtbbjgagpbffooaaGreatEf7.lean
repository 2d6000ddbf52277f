/- EntailChecks, EntailRefutes: the laws' walks. -/
import Derived.Test.YtbbjgagpbffooaaGreatA10
import Derived.Test.YtbbjgagpbffooaaGreatEf2
import Derived.Test.YtbbjgagpbffooaaGreatEh1
import Derived.Test.YtbbjgagpbffooaaGreatEh2
set_option linter.unusedVariables false
namespace Go.Eng
open Go.Proofs Num Lp
theorem checks24_ok {H : Heap} {v yv : Value} {fs : List Lin} {ys : List Rat} {goal : Lin} {A0 : Option Addr} {c0 N : Nat} (hv : FmV H v fs) (hys : SlV (RatP N) 3 H yv ys) (hgl : SlV TermP 2 H (.slice A0 goal.ts.length c0) goal.ts) :
  Fn Tryz.prog 3 #[v, .agg #[.int .i64 goal.c, .slice A0 goal.ts.length c0], yv] H (fun v' H' => Heap.le H H' ∧ v' = .bool true) := by
 obtain ⟨A, c, xs, rfl, hc, hr, hx⟩ := id hv
 obtain ⟨Ay, cy, xy, rfl, hcy, hry, hxy⟩ := id hys; refine fn_intro (args := [_, _, _]) Tryz.func3 rfl rfl Tryz.ntmps3 rfl rfl fun w0 => ?_; refine vc_keep [0, 1, 2] rfl ?_; refine vc_sr ?_; refine vco_box rfl rfl ?_; refine vr 1 ?_; refine vco_k [0, 2, 4] ?_; refine vc_seq ?_; refine vc_sr ?_; refine vco_call rfl rfl (sane24_ok) ?_; rintro _ H1 ⟨hl1, rfl⟩; refine vr 1 ?_; refine vco_k [0, 2, 4, 8] ?_; refine vc_cond_f rfl ?_; refine vc_skip ?_; refine vc_keep [0, 2, 4] rfl ?_; refine vc_seq ?_; refine vc_sr ?_; refine vr 2 ?_; refine vco_build Tryz.underlying22 el25 rfl rfl rfl rfl rfl rfl rfl ?_; intro gb hgb; obtain ⟨hl2, hm2⟩ := fm_one hgb (hgl.le termUp hl1); have h02 := hl1.trans hl2; refine vco_call rfl rfl (kept24_ok (gs := [goal]) (hv.le formUp h02) hm2) ?_; rintro _ H3 ⟨e3, b3, rfl, hb3⟩; rw [e3]
 cases b3
 ·
  skip
  refine vr 6 ?_; refine vco_k [0, 2, 4, 18] ?_; refine vc_cond_t rfl ?_; refine vc_sr ?_; refine vr 1 ?_; refine vco_k [6] ?_; refine vc_ret ⟨.inr rfl, _, .tmp rfl (.nil), ?_⟩; exact ⟨h02, rfl⟩
 ·
  skip
  refine vr 3 ?_; refine vco_call rfl rfl (kRats_ok (n := 8) (hys.le (ratUp N) h02) (by decide)) ?_; rintro _ H4 ⟨e4, b4, rfl, hb4⟩; rw [e4]; refine vr 2 ?_; refine vco_k [0, 2, 4, 18] ?_; refine vc_cond rfl (fun hb => ?_) (fun hb => ?_)
  ·
   skip
   refine vc_sr ?_; refine vr 1 ?_; refine vco_k [6] ?_; refine vc_ret ⟨.inr rfl, _, .tmp rfl (.nil), ?_⟩; exact ⟨h02, rfl⟩
  ·
   have hk4 := hb4 (by simpa using hb); have hlen8 := hk4.1; have ha : EntA 2 _ _ _ fs ys := ⟨hv.le formUp h02, hk4.2, by decide⟩; refine vc_skip ?_; refine vc_keep [0, 2, 4] rfl ?_; refine vc_sd .drawB [0, 2, 1, 3, 4, 5, 6, 7, 8, 10, 11, 12, 9, 13, 14, 15, 16, 17, 18, 20, 21, 19, 22, 23, 24, 25] follows (okM [0, 1, 0, 7, 15, 31, 63, 63, 63, 511, 63, 63, 63, 8191, 16383, 32767, 65535, 131071, 131071, 524287, 131071, 131071, 4194303, 8388607, 16777215, 33554431] (by kernel_rfl)) ?_; refine vr 2 ?_; refine vco_callM rfl rfl (evalid_ok ha.fv) (fun _ _ h => by first | exact h.le | exact h.1) ?_; rintro _ H4 ⟨hl4, b4, rfl, hb4⟩; refine vco_callM rfl rfl (rvalidfacts_ok (ha.fv.le formUp hl4)) (fun _ _ h => by first | exact h.le | exact h.1) ?_; rintro _ H5 ⟨hl5, b5, rfl, hb5⟩
   obtain rfl : b4 = b5 := by rw [Bool.eq_iff_iff, hb4, hb5]
   have h25 := hl4.trans hl5; have h05 := h02.trans h25; refine vco_eqb Tryz.underlying4 rfl rfl ?_; rw [show (b4 == b4) = true from beq_self_eq_true _]; refine vr 7 ?_; refine vco_callM rfl rfl (echeck_ok (ha.le h25) (hgl.le termUp h05)) (fun _ _ h => by first | exact h.le | exact h.1) ?_; rintro _ H6 ⟨hl6, b6, rfl, hb6⟩; refine vco_callM rfl rfl (rcheckent_ok (ha.le (h25.trans hl6)) (hgl.le termUp (h05.trans hl6)) (by omega)) (fun _ _ h => by first | exact h.le | exact h.1) ?_; rintro _ H7 ⟨hl7, b7, rfl, hb7⟩
   obtain rfl : b6 = b7 := by rw [Bool.eq_iff_iff, hb6, hb7]
   have h27 := (h25.trans hl6).trans hl7; have h07 := h02.trans h27; refine vco_eqb Tryz.underlying4 rfl rfl ?_; rw [show (b6 == b6) = true from beq_self_eq_true _]; refine vr 6 ?_; refine vco_callM rfl rfl (econtra_ok (ha.le h27)) (fun _ _ h => by first | exact h.le | exact h.1) ?_; rintro _ H8 ⟨hl8, b8, rfl, hb8⟩; refine vco_callM rfl rfl (rcontra_ok (ha.le (h27.trans hl8)) (by omega)) (fun _ _ h => by first | exact h.le | exact h.1) ?_; rintro _ H9 ⟨hl9, b9, rfl, hb9⟩
   obtain rfl : b8 = b9 := by rw [Bool.eq_iff_iff, hb8, hb9]
   refine vco_eqb Tryz.underlying4 rfl rfl ?_; rw [show (b8 == b8) = true from beq_self_eq_true _]; refine vr 2 ?_; refine vco_k [6] ?_; refine vc_ret ⟨.inr rfl, _, .tmp rfl (.nil), ?_⟩; exact ⟨(h07.trans hl8).trans hl9, rfl⟩
end Go.Eng
