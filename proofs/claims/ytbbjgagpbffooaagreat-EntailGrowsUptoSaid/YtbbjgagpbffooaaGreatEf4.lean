/- EntailGrows: the law's walk. -/
import Derived.Test.YtbbjgagpbffooaaGreatA10
import Derived.Test.YtbbjgagpbffooaaGreatEf2
import Derived.Test.YtbbjgagpbffooaaGreatPlc
import Derived.Test.YtbbjgagpbffooaaGreatRot
set_option linter.unusedVariables false
namespace Go.Eng
open Go.Proofs Num Lp
theorem egrows_ok {H : Heap} {v mv : Value} {fs ms : List Lin} {goal : Lin} {A0 : Option Addr} {c0 : Nat} {tu : Int} (hv : FmV H v fs) (hm : FmV H mv ms) (hgl : SlV TermP 2 H (.slice A0 goal.ts.length c0) goal.ts) (ht0 : 0 ≤ tu) (ht1 : tu ≤ 255) (h1 : fs.length ≤ 1048576) (h2 : ms.length ≤ 1048576) :
  Fn Tryz.prog 6 #[v, mv, .agg #[.int .i64 goal.c, .slice A0 goal.ts.length c0], .int .u8 tu] H (fun v' H' => Heap.le H H' ∧ v' = .bool true) := by
 obtain ⟨A, c, xs, rfl, hc, hr, hx⟩ := id hv
 obtain ⟨M, cm, xm, rfl, hcm, hrm, hxm⟩ := id hm; refine fn_intro (args := [_, _, _, _]) Tryz.func6 rfl rfl Tryz.ntmps6 rfl rfl fun w0 => ?_; refine vc_keep [0, 1, 2, 3] rfl ?_; refine vc_sr ?_; refine vco_box rfl rfl ?_; refine vr 1 ?_; refine vco_k [0, 1, 3, 6] ?_; refine vc_seq ?_; refine vc_sr ?_; refine vco_call rfl rfl (sane24_ok) ?_; rintro _ H1 ⟨hl1, rfl⟩; refine vr 1 ?_; refine vco_k [0, 1, 3, 6, 22] ?_; refine vc_cond_f rfl ?_; refine vc_skip ?_; refine vc_keep [0, 1, 3, 6] rfl ?_; refine vc_sr ?_; refine vr 1 ?_; refine vco_app formUp oneForm (by decide) Tryz.underlying22 el25 rfl rfl (gro_nil H1) (by rw [blk_nil, rem_nil]; exact hv.le formUp hl1) (by rw [List.length_nil]; omega) (by rw [List.length_nil]; omega) ?_; intro v2 H2 y2 hG2 _; rw [List.nil_append] at hG2; refine vr 1 ?_; refine vco_app formUp oneForm (by decide) Tryz.underlying22 el25 rfl rfl hG2 (hm.le formUp (hl1.trans hG2.base)) (by omega) (by omega) ?_; intro v3 H3 y3 hG3 _; have hs3 := hG3.sl formUp; have h03 := hl1.trans hG3.le; have hla : (fs ++ ms).length = fs.length + ms.length := List.length_append; obtain ⟨W, cw, rfl⟩ := hG3.form; refine vr 1 ?_; refine vco_k [0, 3, 6, 9] ?_; refine vc_seq ?_; refine vc_sr ?_; refine vr 2 ?_; refine vco_build Tryz.underlying22 el25 rfl rfl rfl rfl rfl rfl rfl ?_; intro gb hgb; obtain ⟨hl4, hm4⟩ := fm_one hgb (hgl.le termUp h03); have h04 := h03.trans hl4; refine vco_call rfl rfl (usable_ok (gs := [goal]) (hs3.le formUp hl4) hm4 (by simp)) ?_
 rintro _ H5 ⟨hl5, b5, rfl, hb5⟩; have h05 := h04.trans hl5; have hs5 := hs3.le formUp (hl4.trans hl5); refine vr 1 ?_; refine vco_k [0, 3, 6, 9, 31] ?_; refine vc_cond rfl (fun hb => ?_) (fun hb => ?_)
 ·
  skip
  refine vc_sr ?_; refine vr 1 ?_; refine vco_k [8] ?_; refine vc_ret ⟨.inr rfl, _, .tmp rfl (.nil), ?_⟩; exact ⟨h05, rfl⟩
 ·
  have hu := hb5.1 (by simpa using hb); have hfo := hu.ok; have hgo := hu.val 0 goal rfl; have hal := hu.keptF.1; have hsub : ∀ f, f ∈ fs → f ∈ fs ++ ms := fun f h => List.mem_append_left _ h
  have hff : FactsOk fs := by
   refine ⟨by have := hfo.len; omega, fun i f hi => ?_, ?_⟩
   · obtain ⟨k, hk⟩ := List.getElem?_of_mem (hsub f (List.mem_of_getElem? hi)); exact hfo.ok k f hk
   ·
    have h9 := ment_len fs; have h8 := allVars_len (k := 4) (fs := fs) fun f hf => hu.keptF.2 f (hsub f hf)
    omega
  have hfw : FewL fs goal := fun _ hg => kept_few ⟨by omega, fun f hf => hu.keptF.2 f (hsub f hf)⟩ hg; refine vc_skip ?_; refine vc_keep [0, 3, 6, 9] rfl ?_; refine vc_sr ?_; refine vr 3 ?_; refine vco_call rfl rfl (placeAny_ok (n := (fs ++ ms).length) ht0 ht1 (by omega)) ?_; rintro _ H6 ⟨_, e6, k, rfl, hk, _⟩; rw [e6]; refine vr 1 ?_; refine vco_k [0, 6, 9, 10] ?_; refine vc_sd .drawB [0, 1, 2, 4, 5, 6, 3, 7, 8] follows (by kernel_rfl) ?_; refine vr 2 ?_; refine vco_slice tbOk rfl rfl (.inr ⟨_, _, rfl, rfl⟩) (.inl ⟨rfl, rfl⟩) (by omega) (by have := hs5.cap; omega) ?_; refine vr 2 ?_; refine vco_slice tbOk rfl rfl (.inl ⟨rfl, rfl⟩) (.inr ⟨_, _, rfl, rfl⟩) (by omega) (by have := hs5.cap; omega) ?_; refine vco_app formUp oneForm (by decide) Tryz.underlying22 el25 rfl rfl (gro_nil H5) (by rw [blk_nil, rem_nil]; exact hs5.from hk) (by rw [List.length_nil, List.length_drop]; omega) (by rw [List.length_nil, List.length_drop]; omega) ?_; intro v7 H7 y7 hG7 _; rw [List.nil_append] at hG7; refine vco_app formUp oneForm (by decide) Tryz.underlying22 el25 rfl rfl hG7 ((hs5.le formUp hG7.base).upto hk) (by rw [List.length_drop, List.length_take]; omega) (by rw [List.length_drop, List.length_take]; omega) ?_; intro v8 H8 y8 hG8 _; have hs8 := hG8.sl formUp; have h58 := hG8.le; have h08 := h05.trans h58
  have hmem : ∀ f, f ∈ (fs ++ ms).drop k ++ (fs ++ ms).take k ↔ f ∈ fs ++ ms := fun f => by
   constructor
   ·
    intro h
    rcases List.mem_append.1 h with h|h
    · exact List.mem_of_mem_drop h
    · exact List.mem_of_mem_take h
   ·
    intro h; rw [← List.take_append_drop k (fs ++ ms)] at h; exact List.mem_append.2 (List.mem_append.1 h).symm
  have hlt : ((fs ++ ms).drop k ++ (fs ++ ms).take k).length = (fs ++ ms).length := by rw [List.length_append, List.length_drop, List.length_take]; omega
  have hft : FactsOk ((fs ++ ms).drop k ++ (fs ++ ms).take k) := by
   refine ⟨by rw [hlt]; exact hfo.len, fun i f hi => ?_, ?_⟩
   · obtain ⟨j, hj⟩ := List.getElem?_of_mem ((hmem f).1 (List.mem_of_getElem? hi)); exact hfo.ok j f hj
   ·
    have h9 := ment_len ((fs ++ ms).drop k ++ (fs ++ ms).take k); have h8 := allVars_len (k := 4) (fs := (fs ++ ms).drop k ++ (fs ++ ms).take k) fun f hf => hu.keptF.2 f ((hmem f).1 hf)
    omega
  have hfw2 : FewL ((fs ++ ms).drop k ++ (fs ++ ms).take k) goal := fun _ hg => kept_few ⟨by omega, fun f hf => hu.keptF.2 f ((hmem f).1 hf)⟩ hg; refine vr 1 ?_; refine vco_k [0, 6, 9, 11] ?_; refine vc_sr ?_; refine vr 2 ?_; refine vco_call rfl rfl (impU_ok (hv.le formUp h08) (hgl.le termUp h08) hff hgo hfw) ?_; rintro _ H9 ⟨hl9, A9, k9, c9, b9, rfl, hb9⟩; have h09 := h08.trans hl9; refine vr 7 ?_; refine vco_k [6, 9, 11, 13, 14] ?_; refine vc_sr ?_; refine vr 2 ?_; refine vco_call rfl rfl (impU_ok (hs5.le formUp (h58.trans hl9)) (hgl.le termUp h09) hfo hgo (hu.few goal)) ?_; rintro _ H10 ⟨hl10, A10, k10, c10, b10, rfl, hb10⟩; have h10 := h09.trans hl10; refine vr 7 ?_; refine vco_k [6, 11, 13, 14, 16, 17] ?_; refine vc_sr ?_; refine vr 2 ?_; refine vco_call rfl rfl (impU_ok (hs8.le formUp (hl9.trans hl10)) (hgl.le termUp h10) hft hgo hfw2) ?_; rintro _ H11 ⟨hl11, A11, k11, c11, b11, rfl, hb11⟩; have h11 := h10.trans hl11
  have e12 : b10 = b11 := by rw [Bool.eq_iff_iff, hb10, hb11]; exact ⟨fun h => h.sub fun f hf => (hmem f).2 hf, fun h => h.sub fun f hf => (hmem f).1 hf⟩
  subst e12; refine vr 7 ?_; refine vco_k [13, 14, 16, 17, 19, 20] ?_
  cases b9
  ·
   skip
   refine vc_sr ?_; refine vr 1 ?_; refine vco_cmp true rfl rfl (ceq_t rfl) ?_; refine vr 2 ?_; refine vco_cmp true rfl rfl (ceq_t rfl) ?_; refine vr 3 ?_; refine vco_cmp true rfl rfl (ceq_t rfl) ?_; refine vr 11 ?_; refine vco_eqb Tryz.underlying4 rfl rfl ?_; refine vr 2 ?_; refine vco_k [8] ?_; refine vc_ret ⟨.inr rfl, _, .tmp rfl (.nil), ?_⟩; exact ⟨h11, congrArg Value.bool (beq_self_eq_true _)⟩
  ·
   obtain rfl := hb10.2 ((hb9.1 rfl).sub hsub); refine vc_sr ?_; refine vr 1 ?_; refine vco_cmp true rfl rfl (ceq_t rfl) ?_; refine vr 2 ?_; refine vco_cmp true rfl rfl (ceq_t rfl) ?_; refine vr 3 ?_; refine vco_cmp true rfl rfl (ceq_t rfl) ?_; refine vr 11 ?_; refine vco_eqb Tryz.underlying4 rfl rfl ?_; refine vr 2 ?_; refine vco_k [8] ?_; refine vc_ret ⟨.inr rfl, _, .tmp rfl (.nil), ?_⟩; exact ⟨h11, rfl⟩
end Go.Eng
