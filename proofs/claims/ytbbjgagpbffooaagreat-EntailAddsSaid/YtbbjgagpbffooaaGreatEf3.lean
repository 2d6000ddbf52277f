/- EntailComplete, EntailChains, EntailAdds, EntailGrows: the laws' walks. -/
import Derived.Test.YtbbjgagpbffooaaGreatA10
import Derived.Test.YtbbjgagpbffooaaGreatEf2
import Derived.Test.YtbbjgagpbffooaaGreatPlc
import Derived.Test.YtbbjgagpbffooaaGreatRot
set_option linter.unusedVariables false
namespace Go.Eng
open Go.Proofs Num Lp
theorem complete_ok {H : Heap} {v : Value} {fs : List Lin} {goal : Lin} {A0 : Option Addr} {c0 : Nat} (hv : FmV H v fs) (hgl : SlV TermP 2 H (.slice A0 goal.ts.length c0) goal.ts) :
  Fn Tryz.prog 12 #[v, .agg #[.int .i64 goal.c, .slice A0 goal.ts.length c0]] H (fun v' H' => Heap.le H H' ∧ v' = .bool true) := by
 obtain ⟨A, c, xs, rfl, hc, hr, hx⟩ := id hv; refine fn_intro (args := [_, _]) Tryz.func12 rfl rfl Tryz.ntmps12 rfl rfl fun w0 => ?_; refine vc_keep [0, 1] rfl ?_; refine vc_sr ?_; refine vco_box rfl rfl ?_; refine vr 1 ?_; refine vco_k [0, 3] ?_; refine vc_seq ?_; refine vc_sr ?_; refine vco_call rfl rfl (sane24_ok) ?_; rintro _ H1 ⟨hl1, rfl⟩; refine vr 1 ?_; refine vco_k [0, 3, 15] ?_; refine vc_cond_f rfl ?_; refine vc_skip ?_; refine vc_keep [0, 3] rfl ?_; refine vc_seq ?_; refine vc_sr ?_; refine vr 2 ?_; refine vco_build Tryz.underlying22 el25 rfl rfl rfl rfl rfl rfl rfl ?_; intro gb hgb; obtain ⟨hl2, hm2⟩ := fm_one hgb (hgl.le termUp hl1); have h02 := hl1.trans hl2; refine vco_call rfl rfl (usable_ok (gs := [goal]) (hv.le formUp h02) hm2 (by simp)) ?_; rintro _ H3 ⟨hl3, b3, rfl, hb3⟩; have h03 := h02.trans hl3; refine vr 1 ?_; refine vco_k [0, 3, 20] ?_; refine vc_cond rfl (fun hb => ?_) (fun hb => ?_)
 ·
  skip
  refine vc_sr ?_; refine vr 1 ?_; refine vco_k [4] ?_; refine vc_ret ⟨.inr rfl, _, .tmp rfl (.nil), ?_⟩; exact ⟨h03, rfl⟩
 ·
  have hu := hb3.1 (by simpa using hb); have hfo := hu.ok; have hgo := hu.val 0 goal rfl; refine vc_skip ?_; refine vc_keep [0, 3] rfl ?_; refine vc_sr ?_; refine vr 2 ?_; refine vco_call rfl rfl (impU_ok (hv.le formUp h03) (hgl.le termUp h03) hfo hgo (hu.few goal)) ?_; rintro _ H5 ⟨hl5, A5, k5, c5, b5, rfl, hb5⟩; have h05 := h03.trans hl5; refine vr 7 ?_; refine vco_k [0, 3, 6, 7] ?_; refine vc_sr ?_; refine vr 2 ?_; refine vco_call rfl rfl (leastU_ok (hv.le formUp h05) (hgl.le termUp h05) hfo hgo (hu.few goal)) ?_; rintro _ H6 ⟨hl6, t6, st, q, rfl, hi6, hr6, hraw6⟩; have h06 := h05.trans hl6; refine vr 4 ?_; refine vco_alloc el36 rfl ?_; obtain ⟨ti, hti, htz⟩ := sz36; refine vco_bstore (.inl ⟨rfl, rfl⟩) rfl rfl rfl hti htz rfl rfl rfl ?_; refine vr 2 ?_; refine vco_k [0, 6, 7, 8, 9, 10] ?_; refine vc_sr ?_; refine vr 1 ?_; refine vco_call rfl rfl (refU_ok (hv.le formUp h06) hfo hu.keptF.1) ?_; rintro _ H7 ⟨hl7, A7, k7, c7, b7, rfl, hb7⟩; have h07 := h06.trans hl7; refine vr 7 ?_; refine vco_k [6, 7, 8, 9, 10, 12, 13] ?_; refine vc_seq ?_; refine vc_sr ?_; refine vr 1 ?_; refine vco_cmp false rfl rfl (cne_f rfl) ?_; refine vr 2 ?_; refine vco_cmp false rfl rfl (cne_f rfl) ?_; refine vr 3 ?_; refine vco_cmp false rfl rfl (cne_f rfl) ?_; refine vr 5 ?_; refine vco_neb Tryz.underlying4 rfl rfl ?_; refine vr 1 ?_; refine vco_k [6, 8, 9, 12, 56] ?_
  refine vc_cond rfl (fun hb => ?_) (fun hb => ?_)
  ·
   have h9 : b7 = (st == 2) := by rw [Bool.eq_iff_iff, hb7, hr6]; simp
   rw [h9] at hb
   simp at hb
  ·
   skip
   refine vc_skip ?_; refine vc_keep [6, 8, 9, 12] rfl ?_
   cases b7
   ·
    have hn2 : ¬ st = 2 := fun e => (by have h9 := hb7.2 (hr6.2 e); cases h9)
    by_cases hs1 : st = 1
    ·
     skip
     refine vc_sr ?_; refine vr 4 ?_; refine vco_cmp true rfl rfl (ceq_t hs1) ?_; refine vr 2 ?_; refine vco_call rfl rfl (rSign_ok (N := 1000000000000) (hraw6.le hl7) (by decide)) ?_; rintro _ H8 ⟨hl8, rfl⟩; refine vr 3 ?_; refine vco_eqb Tryz.underlying4 rfl rfl ?_; refine vr 1 ?_; refine vco_k [4] ?_; refine vc_ret ⟨.inr rfl, _, .tmp rfl (.nil), ?_⟩; exact ⟨h07.trans hl8, congrArg Value.bool (beq_iff_eq.2 (Bool.eq_iff_iff.2 (hb5.trans (hi6.trans ⟨fun h => decide_eq_true (sgn_ge.2 (h.elim (fun h => absurd h hn2) (fun h => h.2))), fun h => .inr ⟨hs1, sgn_ge.1 (of_decide_eq_true h)⟩⟩))))⟩
    ·
     skip
     refine vc_sr ?_; refine vr 4 ?_; refine vco_cmp false rfl rfl (ceq_f hs1) ?_; refine vr 6 ?_; refine vco_eqb Tryz.underlying4 rfl rfl ?_; refine vr 1 ?_; refine vco_k [4] ?_; refine vc_ret ⟨.inr rfl, _, .tmp rfl (.nil), ?_⟩; exact ⟨h07, congrArg Value.bool (beq_iff_eq.2 (Bool.eq_iff_iff.2 (hb5.trans (hi6.trans ⟨fun h => h.elim (fun h => absurd h hn2) (fun h => absurd h.1 hs1), fun h => by cases h⟩))))⟩
   ·
    have hy2 : st = 2 := hr6.1 (hb7.1 rfl); refine vc_sr ?_; refine vr 11 ?_; refine vco_eqb Tryz.underlying4 rfl rfl ?_; refine vr 1 ?_; refine vco_k [4] ?_; refine vc_ret ⟨.inr rfl, _, .tmp rfl (.nil), ?_⟩; exact ⟨h07, congrArg Value.bool (beq_iff_eq.2 (Bool.eq_iff_iff.2 (hb5.trans (hi6.trans ⟨fun _ => rfl, fun _ => .inl hy2⟩))))⟩
theorem chains_ok {H : Heap} {v mv : Value} {fs ms : List Lin} {goal : Lin} {A0 : Option Addr} {c0 : Nat} (hv : FmV H v fs) (hm : FmV H mv ms) (hgl : SlV TermP 2 H (.slice A0 goal.ts.length c0) goal.ts) :
  Fn Tryz.prog 8 #[v, mv, .agg #[.int .i64 goal.c, .slice A0 goal.ts.length c0]] H (fun v' H' => Heap.le H H' ∧ v' = .bool true) := by
 obtain ⟨A, c, xs, rfl, hc, hr, hx⟩ := id hv
 obtain ⟨M, cm, xm, rfl, hcm, hrm, hxm⟩ := id hm; refine fn_intro (args := [_, _, _]) Tryz.func8 rfl rfl Tryz.ntmps8 rfl rfl fun w0 => ?_; refine vc_keep [0, 1, 2] rfl ?_; refine vc_sr ?_; refine vco_box rfl rfl ?_; refine vr 1 ?_; refine vco_k [0, 1, 5] ?_; refine vc_seq ?_; refine vc_sr ?_; refine vco_call rfl rfl (sane24_ok) ?_; rintro _ H1 ⟨hl1, rfl⟩; refine vr 1 ?_; refine vco_k [0, 1, 5, 18] ?_; refine vc_cond_f rfl ?_; refine vc_skip ?_; refine vc_keep [0, 1, 5] rfl ?_; refine vc_seq ?_; refine vc_sr ?_; refine vr 2 ?_; refine vco_build Tryz.underlying22 el25 rfl rfl rfl rfl rfl rfl rfl ?_; intro gb hgb; obtain ⟨hl2, hm2⟩ := fm_one hgb (hgl.le termUp hl1); have h02 := hl1.trans hl2; refine vco_call rfl rfl (usable_ok (gs := [goal]) (hv.le formUp h02) hm2 (by simp)) ?_; rintro _ H3 ⟨hl3, b3, rfl, hb3⟩; have h03 := h02.trans hl3
 cases b3
 ·
  skip
  refine vr 6 ?_; refine vco_k [0, 1, 5, 28] ?_; refine vc_cond_t rfl ?_; refine vc_sr ?_; refine vr 1 ?_; refine vco_k [6] ?_; refine vc_ret ⟨.inr rfl, _, .tmp rfl (.nil), ?_⟩; exact ⟨h03, rfl⟩
 ·
  skip
  refine vr 3 ?_; refine vco_call rfl rfl (usable_ok (gs := []) (hm.le formUp h03) SlV.nil (by simp)) ?_; rintro _ H4 ⟨hl4, b4, rfl, hb4⟩; have h04 := h03.trans hl4; refine vr 2 ?_; refine vco_k [0, 1, 5, 28] ?_; refine vc_cond rfl (fun hb => ?_) (fun hb => ?_)
  ·
   skip
   refine vc_sr ?_; refine vr 1 ?_; refine vco_k [6] ?_; refine vc_ret ⟨.inr rfl, _, .tmp rfl (.nil), ?_⟩; exact ⟨h04, rfl⟩
  ·
   have hu := hb3.1 rfl; have hu2 := hb4.1 (by simpa using hb); have hfo := hu.ok; have hgo := hu.val 0 goal rfl; refine vc_skip ?_; refine vc_keep [0, 1, 5] rfl ?_; refine vc_seq ?_; refine vc_sr ?_; refine vr 3 ?_; refine vco_k [0, 1, 5, 30, 31] ?_; refine vc_block ?_; refine vc_loop1 (fun (i : Nat) => ms.length - i) (fun (i : Nat) => put (put (put (put (put (emp) 0 (.val (.slice A fs.length c))) 1 (.val (.slice M ms.length cm))) 5 (.box [.int .i64 goal.c, .slice A0 goal.ts.length c0])) 30 (.val (.int .i64 (ms.length : Int)))) 31 (.val (.int .i64 (i : Int)))) (fun (i : Nat) H' => Heap.le H4 H' ∧ i ≤ ms.length ∧ ∀ (k : Nat) (g : Lin), k < i → ms[k]? = some g → Imp fs g) 0 (⟨.refl _, Nat.zero_le _, fun k f h => by omega⟩) sub_auto ?_; rintro i H5 ⟨hl5, hi, hk⟩; have h05 := h04.trans hl5; refine vc_sr ?_; refine vr 1 ?_; refine vco_k [0, 1, 5, 30, 31, 32] ?_; refine vc_seq ?_; refine vc_cond rfl (fun hb => ?_) (fun hb => ?_)
   ·
    have him : i < ms.length := by simpa using hb
    obtain ⟨f, hf⟩ : ∃ f, ms[i]? = some f := ⟨_, List.getElem?_eq_getElem him⟩; obtain ⟨E, ce, hfs, hxf⟩ := form_get hxm hf; have hu2l := hu2.ok.len; refine vc_skip ?_; refine vc_keep [0, 1, 5, 30, 31] rfl ?_; refine vc_seq ?_; refine vc_block ?_; refine vc_sr ?_; refine vr 2 ?_; refine vco_k [0, 1, 5, 7, 30, 31] ?_; refine vc_sr ?_; refine vr 3 ?_; refine vco_at_st tbOk rfl rfl rfl rfl (hrm.le h05) rfl (by decide) (hxf) (by omega) (by omega) fun _ => ?_; refine vco_call rfl rfl (impU_ok (hv.le formUp h05) (hfs.le termUp h05) hfo (hu2.ok.ok i f hf) (hu.few f)) ?_; rintro _ H6 ⟨hl6, A6, k6, c6, b6, rfl, hb6⟩; refine vr 7 ?_; refine vco_k [0, 1, 5, 9, 10, 30, 31] ?_; refine vc_seq ?_; refine vc_sr ?_; refine vr 1 ?_; refine vco_cmp false rfl rfl (cne_f rfl) ?_; refine vco_k [0, 1, 5, 9, 30, 31, 45] ?_; refine vc_cond_f rfl ?_; refine vc_skip ?_; refine vc_keep [0, 1, 5, 9, 30, 31] rfl ?_; refine vc_sr ?_; refine vr 2 ?_; refine vco_k [0, 1, 5, 30, 31, 47] ?_; refine vc_cond rfl (fun hb => ?_) (fun hb => ?_)
    ·
     skip
     refine vc_sr ?_; refine vr 1 ?_; refine vco_k [6] ?_; refine vc_ret ⟨.inr rfl, _, .tmp rfl (.nil), ?_⟩; exact ⟨h05.trans hl6, rfl⟩
    ·
     have hbt : b6 = true := by simpa using hb
     refine vc_skip ?_; refine vc_keep [0, 1, 5, 30, 31] rfl ?_; refine vc_region rfl ?_; refine vco_add rfl rfl ⟨by omega, by omega⟩ ?_; refine vr 1 ?_; refine vco_end ?_; exact ⟨i + 1, by omega, sub_auto, hl5.trans hl6, by omega, fun k f9 h9 hf9 => by by_cases e : k < i; exact hk k f9 e hf9; (obtain rfl : k = i := by omega); rw [hf] at hf9; cases hf9; exact hb6.1 hbt⟩
   ·
    have hb : ms.length ≤ i := by simpa using hb
    have hall : ∀ k, k < ms.length → Imp fs (nth ms k) := fun k h => hk k _ (by omega) (nth_some h); refine vc_exit ?_; refine vc_keep [0, 1, 5] rfl ?_; refine vc_sr ?_; refine vr 2 ?_; refine vco_call rfl rfl (impU_ok (hm.le formUp h05) (hgl.le termUp h05) hu2.ok hgo (hu2.few goal)) ?_; rintro _ H7 ⟨hl7, A7, k7, c7, b7, rfl, hb7⟩; have h07 := h05.trans hl7; refine vr 7 ?_; refine vco_k [0, 5, 12, 13] ?_; refine vc_sr ?_; refine vr 2 ?_; refine vco_call rfl rfl (impU_ok (hv.le formUp h07) (hgl.le termUp h07) hfo hgo (hu.few goal)) ?_; rintro _ H8 ⟨hl8, A8, k8, c8, b8, rfl, hb8⟩; have h08 := h07.trans hl8; refine vr 7 ?_; refine vco_k [12, 13, 15, 16] ?_
    cases b7
    ·
     skip
     refine vc_sr ?_; refine vr 1 ?_; refine vco_cmp true rfl rfl (ceq_t rfl) ?_; refine vr 2 ?_; refine vco_cmp true rfl rfl (ceq_t rfl) ?_; refine vr 9 ?_; refine vco_k [6] ?_; refine vc_ret ⟨.inr rfl, _, .tmp rfl (.nil), ?_⟩; exact ⟨h08, rfl⟩
    ·
     skip
     refine vc_sr ?_; refine vr 1 ?_; refine vco_cmp true rfl rfl (ceq_t rfl) ?_; refine vr 2 ?_; refine vco_cmp true rfl rfl (ceq_t rfl) ?_; refine vr 9 ?_; refine vco_k [6] ?_; refine vc_ret ⟨.inr rfl, _, .tmp rfl (.nil), ?_⟩; exact ⟨h08, congrArg Value.bool (hb8.2 (.chain hall (hb7.1 rfl)))⟩
theorem adds_ok {H : Heap} {v : Value} {fs : List Lin} {a b : Lin} {A1 A2 : Option Addr} {c1 c2 : Nat} (hv : FmV H v fs) (ha : SlV TermP 2 H (.slice A1 a.ts.length c1) a.ts) (hb0 : SlV TermP 2 H (.slice A2 b.ts.length c2) b.ts) :
  Fn Tryz.prog 7 #[v, .agg #[.int .i64 a.c, .slice A1 a.ts.length c1], .agg #[.int .i64 b.c, .slice A2 b.ts.length c2]] H (fun v' H' => Heap.le H H' ∧ v' = .bool true) := by
 obtain ⟨A, c, xs, rfl, hc, hr, hx⟩ := id hv; refine fn_intro (args := [_, _, _]) Tryz.func7 rfl rfl Tryz.ntmps7 rfl rfl fun w0 => ?_; refine vc_keep [0, 1, 2] rfl ?_; refine vc_sr ?_; refine vco_box rfl rfl ?_; refine vco_box rfl rfl ?_; refine vr 1 ?_; refine vco_k [0, 4, 5] ?_; refine vc_seq ?_; refine vc_sr ?_; refine vco_call rfl rfl (sane24_ok) ?_; rintro _ H1 ⟨hl1, rfl⟩; refine vr 1 ?_; refine vco_k [0, 4, 5, 19] ?_; refine vc_cond_f rfl ?_; refine vc_skip ?_; refine vc_keep [0, 4, 5] rfl ?_; refine vc_seq ?_; refine vc_sr ?_; refine vr 3 ?_; refine vco_build Tryz.underlying22 el25 rfl rfl rfl rfl rfl rfl rfl ?_; intro gb hgb; obtain ⟨hl2, hm2⟩ := fm_two hgb (ha.le termUp hl1) (hb0.le termUp hl1); have h02 := hl1.trans hl2; refine vco_call rfl rfl (usable_ok (gs := [a, b]) (hv.le formUp h02) hm2 (by simp)) ?_; rintro _ H3 ⟨hl3, b3, rfl, hb3⟩; have h03 := h02.trans hl3; refine vr 1 ?_; refine vco_k [0, 4, 5, 25] ?_; refine vc_cond rfl (fun hb => ?_) (fun hb => ?_)
 ·
  skip
  refine vc_sr ?_; refine vr 1 ?_; refine vco_k [6] ?_; refine vc_ret ⟨.inr rfl, _, .tmp rfl (.nil), ?_⟩; exact ⟨h03, rfl⟩
 ·
  have hu := hb3.1 (by simpa using hb); have hfo := hu.ok; have hao := hu.val 0 a rfl; have hbo := hu.val 1 b rfl; refine vc_skip ?_; refine vc_keep [0, 4, 5] rfl ?_; refine vc_sr ?_; refine vr 2 ?_; refine vco_call rfl rfl (eplus_ok (ha.le termUp h03) (hb0.le termUp h03) hao hbo) ?_; rintro _ H4 ⟨hl4, C4, d4, b4, rfl, hs4, hb4⟩; have h04 := h03.trans hl4; refine vr 3 ?_; refine vco_alloc el25 rfl ?_; obtain ⟨ti, hti, htz⟩ := sz25; refine vco_bstore (.inl ⟨rfl, rfl⟩) rfl rfl rfl hti htz rfl rfl rfl ?_; refine vr 1 ?_; refine vco_k [0, 4, 5, 7, 8] ?_; refine vc_seq ?_
  cases b4
  ·
   skip
   refine vc_sr ?_; refine vr 8 ?_; refine vco_k [0, 4, 5, 7, 39] ?_; refine vc_cond_t rfl ?_; refine vc_sr ?_; refine vr 1 ?_; refine vco_k [6] ?_; refine vc_ret ⟨.inr rfl, _, .tmp rfl (.nil), ?_⟩; exact ⟨h04, rfl⟩
  ·
   skip
   refine vc_sr ?_; refine vr 8 ?_; refine vco_k [0, 4, 5, 7, 39] ?_; refine vc_cond rfl (fun hb => ?_) (fun hb => ?_)
   ·
    skip
    refine vc_sr ?_; refine vr 1 ?_; refine vco_k [6] ?_; refine vc_ret ⟨.inr rfl, _, .tmp rfl (.nil), ?_⟩; exact ⟨h04, rfl⟩
   ·
    have hso := hb4.1 rfl; refine vc_skip ?_; refine vc_keep [0, 4, 5, 7] rfl ?_; refine vc_sr ?_; refine vr 2 ?_; refine vco_call rfl rfl (impU_ok (hv.le formUp h04) (ha.le termUp h04) hfo hao (hu.few a)) ?_; rintro _ H5 ⟨hl5, A5, k5, c5, b5, rfl, hb5⟩; have h05 := h04.trans hl5; refine vr 7 ?_; refine vco_k [0, 5, 7, 10, 11] ?_; refine vc_sr ?_; refine vr 2 ?_; refine vco_call rfl rfl (impU_ok (hv.le formUp h05) (hb0.le termUp h05) hfo hbo (hu.few b)) ?_; rintro _ H6 ⟨hl6, A6, k6, c6, b6, rfl, hb6⟩; have h06 := h05.trans hl6; refine vr 7 ?_; refine vco_k [0, 7, 10, 11, 13, 14] ?_; refine vc_sr ?_; refine vr 2 ?_; refine vco_call rfl rfl (impU_ok (goal := plusL a b) (hv.le formUp h06) (hs4.le termUp (hl5.trans hl6)) hfo hso (hu.few _)) ?_; rintro _ H7 ⟨hl7, A7, k7, c7, b7, rfl, hb7⟩; have h07 := h06.trans hl7; refine vr 7 ?_; refine vco_k [10, 11, 13, 14, 16, 17] ?_
    cases b5
    ·
     skip
     refine vc_sr ?_; refine vr 1 ?_; refine vco_cmp true rfl rfl (ceq_t rfl) ?_; refine vr 2 ?_; refine vco_cmp true rfl rfl (ceq_t rfl) ?_; refine vr 3 ?_; refine vco_cmp true rfl rfl (ceq_t rfl) ?_; refine vr 13 ?_; refine vco_k [6] ?_; refine vc_ret ⟨.inr rfl, _, .tmp rfl (.nil), ?_⟩; exact ⟨h07, rfl⟩
    ·
     skip
     cases b6
     ·
      skip
      refine vc_sr ?_; refine vr 1 ?_; refine vco_cmp true rfl rfl (ceq_t rfl) ?_; refine vr 2 ?_; refine vco_cmp true rfl rfl (ceq_t rfl) ?_; refine vr 3 ?_; refine vco_cmp true rfl rfl (ceq_t rfl) ?_; refine vr 13 ?_; refine vco_k [6] ?_; refine vc_ret ⟨.inr rfl, _, .tmp rfl (.nil), ?_⟩; exact ⟨h07, rfl⟩
     ·
      skip
      refine vc_sr ?_; refine vr 1 ?_; refine vco_cmp true rfl rfl (ceq_t rfl) ?_; refine vr 2 ?_; refine vco_cmp true rfl rfl (ceq_t rfl) ?_; refine vr 3 ?_; refine vco_cmp true rfl rfl (ceq_t rfl) ?_; refine vr 13 ?_; refine vco_k [6] ?_; refine vc_ret ⟨.inr rfl, _, .tmp rfl (.nil), ?_⟩; exact ⟨h07, congrArg Value.bool (hb7.2 (.plus (hb5.1 rfl) (hb6.1 rfl)))⟩
end Go.Eng
