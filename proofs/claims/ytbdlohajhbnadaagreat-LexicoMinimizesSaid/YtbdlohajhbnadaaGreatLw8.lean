/- Walks over package amortcostref22: levels, CheckLexico; LexicoMinimizes. -/
import Derived.Test.YtbdlohajhbnadaaGreatA10
import Derived.Test.YtbdlohajhbnadaaGreatLw7
import Derived.Test.YtbdlohajhbnadaaGreatLw3
import Derived.Test.YtbdlohajhbnadaaGreatChk2
set_option linter.unusedVariables false
namespace Go.Eng
open Go.Proofs Num Lp
def LexVN (N : Nat) (H : Heap) (v : Value) (S : LexS) : Prop := ∃ A1 c1 A2 c2 A3 c3 A4 c4, v = .agg #[.int .i64 S.status, .slice A1 S.values.length c1, .slice A2 S.x.length c2, .slice A3 S.duals.length c3, .slice A4 S.ray.length c4] ∧ SlV (RatP N) 3 H (.slice A1 S.values.length c1) S.values ∧ SlV (RatP N) 3 H (.slice A2 S.x.length c2) S.x ∧ LsV N H (.slice A3 S.duals.length c3) S.duals ∧ SlV (RatP N) 3 H (.slice A4 S.ray.length c4) S.ray
theorem LexVN.le {N : Nat} {H H' : Heap} {v : Value} {S : LexS} (h : LexVN N H v S) (hl : Heap.le H H') : LexVN N H' v S := by
  obtain ⟨A1, c1, A2, c2, A3, c3, A4, c4, e, h1, h2, h3, h4⟩ := h
  exact ⟨A1, c1, A2, c2, A3, c3, A4, c4, e, h1.le (ratUp N) hl, h2.le (ratUp N) hl, h3.le (vecUp N) hl, h4.le (ratUp N) hl⟩
theorem VecP.mono {N M : Nat} {H : Heap} {vs : List Value} {l : List Rat} (h : VecP N H vs l) (hl : N ≤ M) : VecP M H vs l := by
  obtain ⟨A, c, h1, h2⟩ := h
  exact ⟨A, c, h1, h2.mono fun _ _ h => RatP.mono h hl⟩
theorem fineE {p : Prg} {os : List (List Rat)} {vs : List Rat} (hf : LexFine p os) (h : vs.length ≤ os.length) : ExtE p os vs 0 := .inr (.inr (.inr ⟨hf.ok, ⟨hf.vec, h⟩, by have := hf.rows; omega, rfl⟩))
theorem extQ0 {p : Prg} {os : List (List Rat)} {vs : List Rat} : extQ p os vs 0 = extP p os vs := rfl
theorem rLevels_ok {H : Heap} {v ov sv : Value} {p : Prg} {os : List (List Rat)} {S : LexS} {N : Nat} (hp : ProgV N H v p) (ho : LsV N H ov os) (hS : LexVN N H sv S) (hf : LexFine p os) (hN : N + 2 ≤ 400000000) :
  Fn Tryz.prog 47 #[v, ov, sv] H (fun v H' => Heap.le H H' ∧ ∃ b, v = .bool b ∧ (b = true ↔ LvlOk p os S)) := by
 obtain ⟨fv, rv0, rfl, hfv, hrv0⟩ := id hp
 obtain ⟨Af, cf, xf, rfl, hrF, hxF⟩ := hfv.one
 obtain ⟨Ar, cr, xr, rfl, hcr, hrR, hxR⟩ := id hrv0
 obtain ⟨Ao, co, xo, rfl, hco, hro, hxo⟩ := id ho
 obtain ⟨A1, c1, A2, c2, A3, c3, A4, c4, rfl, hs1, hs2, hs3, hs4⟩ := id hS
 obtain ⟨A1', c1', x1, e1, hc1, hr1, he1⟩ := id hs1
 cases e1
 obtain ⟨A3', c3', x3, e3, hc3, hr3, he3⟩ := id hs3
 cases e3
 have hlev := hf.lev
 have hn4 := hf.ok.cols; refine fn_intro (args := [_, _, _]) Tryz.func47 rfl rfl Tryz.ntmps47 rfl rfl fun w0 => ?_; refine vc_keep [0, 1, 2] rfl ?_; refine vc_sr ?_; refine vco_box rfl rfl ?_; refine vco_box rfl rfl ?_; refine vr 1 ?_; refine vco_k [1, 3, 5] ?_; refine vc_seq ?_
 by_cases h1 : ¬ S.duals.length = S.values.length
 ·
  skip
  refine vc_sr ?_; refine vr 6 ?_; refine vco_cmp true rfl rfl (cne_t (by omega)) ?_; refine vr 8 ?_; refine vco_k [1, 3, 5, 24] ?_; refine vc_cond_t rfl ?_; refine vc_sr ?_; refine vr 1 ?_; refine vco_k [6] ?_; refine vc_ret ⟨.inr rfl, _, .tmp rfl (.nil), ?_⟩; exact ⟨.refl _, false, rfl, ⟨(fun h => by cases h), fun h => absurd h.1 h1⟩⟩
 ·
  skip
  refine vc_sr ?_; refine vr 6 ?_; refine vco_cmp false rfl rfl (cne_f (by omega)) ?_; refine vr 6 ?_
  by_cases h2 : os.length < S.values.length
  ·
   skip
   refine vco_cmp true rfl rfl (cgt_t (by omega)) ?_; refine vr 1 ?_; refine vco_k [1, 3, 5, 24] ?_; refine vc_cond_t rfl ?_; refine vc_sr ?_; refine vr 1 ?_; refine vco_k [6] ?_; refine vc_ret ⟨.inr rfl, _, .tmp rfl (.nil), ?_⟩; exact ⟨.refl _, false, rfl, ⟨(fun h => by cases h), fun h => absurd h.2.1 (by omega)⟩⟩
  ·
   skip
   refine vco_cmp false rfl rfl (cgt_f (by omega)) ?_; refine vr 1 ?_; refine vco_k [1, 3, 5, 24] ?_; refine vc_cond_f rfl ?_; refine vc_skip ?_; refine vc_keep [1, 3, 5] rfl ?_; refine vc_seq ?_; refine vc_sr ?_; refine vr 4 ?_; refine vco_k [1, 3, 5, 27, 28] ?_; refine vc_block ?_; refine vc_loop1 (fun (i : Nat) => S.values.length - i) (fun (i : Nat) => put (put (put (put (put (emp) 1 (.val (.slice Ao os.length co))) 3 (.box [.slice Af p.free.length cf, .slice Ar p.rows.length cr])) 5 (.box [.int .i64 S.status, .slice A1 S.values.length c1, .slice A2 S.x.length c2, .slice A3 S.duals.length c3, .slice A4 S.ray.length c4])) 27 (.val (.int .i64 (S.values.length : Int)))) 28 (.val (.int .i64 (i : Int)))) (fun (i : Nat) H' => Heap.le H H' ∧ i ≤ S.values.length ∧ ∀ (j : Nat) (o : List Rat) (v : Rat) (d : List Rat), j < i → os[j]? = some o → S.values[j]? = some v → S.duals[j]? = some d → ChkOpt (extP p os (S.values.take j)) o S.x d ∧ dotN p.free.length (fn o) (fn S.x) = v) 0 (⟨.refl _, Nat.zero_le _, fun j o v d h => by omega⟩) sub_auto ?_; rintro i H1 ⟨hl1, hi, hal⟩; refine vc_sr ?_; refine vr 1 ?_; refine vco_k [1, 3, 5, 27, 28, 29] ?_; refine vc_seq ?_; refine vc_cond rfl (fun hb => ?_) (fun hb => ?_)
   ·
    have hiv : i < S.values.length := by simpa using hb
    obtain ⟨q, hq⟩ : ∃ q, S.values[i]? = some q := ⟨_, List.getElem?_eq_getElem hiv⟩; obtain ⟨o, hoi⟩ : ∃ o, os[i]? = some o := ⟨_, List.getElem?_eq_getElem (by omega)⟩; obtain ⟨d, hdi⟩ : ∃ d, S.duals[i]? = some d := ⟨_, List.getElem?_eq_getElem (by omega)⟩; obtain ⟨f1, B1, k1, e1, B2, k2, e2, hsg, hraw, hqx⟩ := SlV.seg3 he1 hq; obtain ⟨Bo, cb, hbx, hsl⟩ := vec_get hxo hoi; obtain ⟨Bd, cd, hbd, hsd⟩ := vec_get he3 hdi; have hon := hf.vec o (List.mem_of_getElem? hoi); have hE0 : ExtE p os (S.values.take i) 0 := fineE hf (by rw [List.length_take]; omega); refine vc_skip ?_; refine vc_keep [1, 3, 5, 27, 28] rfl ?_; refine vc_seq ?_; refine vc_block ?_; refine vc_sr ?_; refine vr 2 ?_; refine vco_k [1, 3, 5, 7, 27, 28] ?_; refine vc_sd .drawB [0, 1, 2, 3, 4, 5, 6, 7, 8, 9, 10, 11, 12] follows (by kernel_rfl) ?_; refine vr 5 ?_; refine vco_slice tbOk rfl rfl (.inl ⟨rfl, rfl⟩) (.inr ⟨_, _, rfl, rfl⟩) (by omega) (by omega) ?_; refine vco_callM rfl rfl (rExt_ok (N := N) (hp.le hl1) (ho.le (vecUp N) hl1) ((hs1.le (ratUp N) hl1).upto (by omega)) (by omega) (by rw [List.length_take]; omega) (by omega)) (fun _ _ h => by first | exact h.le | exact h.1) ?_; rintro _ H2 ⟨hl2, Q1, g1, d1, Q2, g2, d2, e, rfl, hE, hq2⟩; obtain rfl := extE_unique hE0 hE; rw [extQ0] at hq2; have h02 := hl1.trans hl2; refine vr 3 ?_; refine vco_alloc el25 rfl ?_; obtain ⟨ti, hti, htz⟩ := sz25; refine vco_bstore (.inl ⟨rfl, rfl⟩) rfl rfl rfl hti htz rfl rfl rfl ?_; refine vr 1 ?_
    refine vco_k [1, 3, 5, 7, 8, 9, 27, 28] ?_; refine vc_sd .drawB [0, 1, 2, 3, 4, 5, 6, 7, 8, 9, 10, 11, 12, 13, 14, 15, 16, 17, 18, 19, 20, 21, 22, 23, 24, 26, 27, 28, 29, 30, 25, 31, 32, 33] follows (by kernel_rfl) ?_; refine vr 1 ?_; refine vco_cmp false rfl rfl (cne_f rfl) ?_; refine vr 4 ?_; refine vco_at tbOk rfl rfl rfl rfl rfl (hro.le h02) (by rw [Int.toNat_natCast]; exact hbx) (by omega) (by omega) fun _ => ?_; refine vr 5 ?_; refine vco_at tbOk rfl rfl rfl rfl rfl (hr3.le h02) (by rw [Int.toNat_natCast]; exact hbd) (by omega) (by omega) fun _ => ?_; refine vco_callM rfl rfl (rCheckOptimal_ok (N := N + 2) hq2 ((hsl.le (ratUp N) h02).mono fun _ _ h => RatP.mono h (by omega)) ((hs2.le (ratUp N) h02).mono fun _ _ h => RatP.mono h (by omega)) ((hsd.le (ratUp N) h02).mono fun _ _ h => RatP.mono h (by omega)) hN) (fun _ _ h => by first | exact h.le | exact h.1) ?_; rintro _ H3 ⟨hl3, b5, rfl, hb5⟩; have h03 := h02.trans hl3
    cases b5
    ·
     skip
     refine vr 18 ?_; refine vco_k [1, 3, 5, 27, 28, 74] ?_; refine vc_cond_t rfl ?_; refine vc_sr ?_; refine vr 1 ?_; refine vco_k [6] ?_; refine vc_ret ⟨.inr rfl, _, .tmp rfl (.nil), ?_⟩; exact ⟨h03, false, rfl, ⟨(fun h => by cases h), fun h => by have h9 := hb5.2 (h.2.2 i o q d hoi hq hdi).1; cases h9⟩⟩
    ·
     skip
     have hco5 := hb5.1 rfl; have hxl : S.x.length = p.free.length := hco5.feas.len; refine vr 5 ?_; refine vco_at tbOk rfl rfl rfl rfl rfl (hro.le h03) (by rw [Int.toNat_natCast]; exact hbx) (by omega) (by omega) fun _ => ?_; refine vr 5 ?_; refine vco_at_st (vs := [.bool f1, .slice B1 k1 e1, .slice B2 k2 e2]) tbOk rfl rfl rfl rfl (hr1.le h03) rfl (by decide) hqx (by omega) (by omega) fun _ => ?_; refine vco_callM rfl rfl (rDot_ok (N := N) (hsl.le (ratUp N) h03) (hs2.le (ratUp N) h03) (by omega) (by omega) (by omega)) (fun _ _ h => by first | exact h.le | exact h.1) ?_; rintro _ H4 ⟨hl4, t4, rfl, hq4⟩; have hdz := dot_sz9 (N := N) hsl.rsize hs2.rsize (by omega) (by omega) (by omega); have h04 := h03.trans hl4; refine vco_callM rfl rfl (rCmp_ok (N := 900000000000) ((CanV.raw hq4).mono hdz) ((hraw.mono (by omega)).le h04) (by decide)) (fun _ _ h => by first | exact h.le | exact h.1) ?_; rintro _ H5 ⟨hl5, rfl⟩; have h05 := h04.trans hl5; refine vr 2 ?_; refine vco_k [1, 3, 5, 27, 28, 74] ?_; refine vc_cond rfl (fun hb => ?_) (fun hb => ?_)
     ·
      have hne : ¬ cmpQ (dotN o.length (fn o) (fn S.x)) q = 0 := by simpa using hb
      refine vc_sr ?_; refine vr 1 ?_; refine vco_k [6] ?_; refine vc_ret ⟨.inr rfl, _, .tmp rfl (.nil), ?_⟩; exact ⟨h05, false, rfl, ⟨(fun h => by cases h), fun h => absurd (cmp_eq.2 (by rw [hon]; exact (h.2.2 i o q d hoi hq hdi).2)) hne⟩⟩
     ·
      have h9 : cmpQ (dotN o.length (fn o) (fn S.x)) q = 0 := by simpa using hb
      have hdv : dotN p.free.length (fn o) (fn S.x) = q := by rw [hon] at h9; exact cmp_eq.1 h9
      refine vc_skip ?_; refine vc_keep [1, 3, 5, 27, 28] rfl ?_; refine vc_region rfl ?_; refine vco_add rfl rfl ⟨by omega, by omega⟩ ?_; refine vr 1 ?_; refine vco_end ?_; exact ⟨i + 1, by omega, sub_auto, hl1.trans (hl2.trans (hl3.trans (hl4.trans hl5))), by omega, fun j o9 v9 d9 hj k1 k2 k3 => by by_cases h9 : j < i; exact hal j o9 v9 d9 h9 k1 k2 k3; (obtain rfl : j = i := by omega); rw [hoi] at k1; rw [hq] at k2; rw [hdi] at k3; cases k1; cases k2; cases k3; exact ⟨hco5, hdv⟩⟩
   ·
    have hb : S.values.length ≤ i := by simpa using hb
    refine vc_exit ?_; refine vc_keep [] rfl ?_; refine vc_sr ?_; refine vr 1 ?_; refine vco_k [6] ?_; refine vc_ret ⟨.inr rfl, _, .tmp rfl (.nil), ?_⟩; exact ⟨hl1, true, rfl, ⟨fun _ => ⟨by omega, by omega, fun j o v d k1 k2 k3 => hal j o v d (by have := (List.getElem?_eq_some_iff.1 k2).1; omega) k1 k2 k3⟩, fun _ => rfl⟩⟩
theorem rCheckLex_ok {H : Heap} {v ov sv : Value} {p : Prg} {os : List (List Rat)} {S : LexS} {N : Nat} (hp : ProgV N H v p) (ho : LsV N H ov os) (hS : LexVN N H sv S) (hol : os.length ≤ 9223372036854775807) (hN : N + 2 ≤ 400000000) :
  Fn Tryz.prog 17 #[v, ov, sv] H (fun v H' => Heap.le H H' ∧ ∃ b, v = .bool b ∧ (b = true ↔ LexFine p os ∧ ChkLex p os S)) := by
 obtain ⟨fv, rv0, rfl, hfv, hrv0⟩ := id hp
 obtain ⟨Af, cf, xf, rfl, hrF, hxF⟩ := hfv.one
 obtain ⟨Ar, cr, xr, rfl, hcr, hrR, hxR⟩ := id hrv0
 obtain ⟨Ao, co, xo, rfl, hco, hro, hxo⟩ := id ho
 obtain ⟨A1, c1, A2, c2, A3, c3, A4, c4, rfl, hs1, hs2, hs3, hs4⟩ := id hS
 obtain ⟨A1', c1', x1, e1, hc1, hr1, he1⟩ := id hs1
 cases e1
 obtain ⟨A3', c3', x3, e3, hc3, hr3, he3⟩ := id hs3
 cases e3
 refine fn_intro (args := [_, _, _]) Tryz.func17 rfl rfl Tryz.ntmps17 rfl rfl fun w0 => ?_; refine vc_keep [0, 1, 2] rfl ?_; refine vc_sr ?_; refine vco_box rfl rfl ?_; refine vco_box rfl rfl ?_; refine vr 1 ?_; refine vco_k [1, 3, 5] ?_; refine vc_seq ?_; refine vc_sr ?_; refine vr 2 ?_; refine vco_call rfl rfl (rLexE_ok hp ho hol) ?_; rintro _ H1 ⟨e1, er, rfl, hE⟩; rw [e1]; refine vr 1 ?_; refine vco_k [1, 3, 5, 12] ?_; refine vc_cond rfl (fun hb => ?_) (fun hb => ?_)
 ·
  have her : ¬ er = 0 := by simpa using hb
  refine vc_sr ?_; refine vr 1 ?_; refine vco_k [6] ?_; refine vc_ret ⟨.inr rfl, _, .tmp rfl (.nil), ?_⟩; exact ⟨.refl _, false, rfl, ⟨(fun h => by cases h), fun h => absurd (lexE_unique hE (.inr (.inr (.inr ⟨h.1, rfl⟩)))) her⟩⟩
 ·
  have her : er = 0 := by simpa using hb
  subst her; have hf := hE.fine; have hlev := hf.lev; refine vc_skip ?_; refine vc_keep [1, 3, 5] rfl ?_; refine vc_seq ?_; refine vc_sr ?_; refine vr 2 ?_; refine vco_k [1, 3, 5, 14] ?_; refine vc_block ?_; refine vc_sr ?_; refine vr 2 ?_; refine vco_k [1, 3, 5, 14, 15] ?_; refine vc_cond rfl (fun hb => ?_) (fun hb => ?_)
  ·
   have hst : S.status = 1 := by simpa using hb
   by_cases h1 : ¬ S.values.length = os.length
   ·
    skip
    refine vc_sr ?_; refine vr 5 ?_; refine vco_cmp false rfl rfl (ceq_f (by omega)) ?_; refine vr 19 ?_; refine vco_k [6] ?_; refine vc_ret ⟨.inr rfl, _, .tmp rfl (.nil), ?_⟩; exact ⟨.refl _, false, rfl, ⟨(fun h => by cases h), fun h => by obtain ⟨_, h⟩ := h; rcases h with ⟨_, h9, _⟩ | ⟨h9, _⟩ | ⟨h9, _⟩ <;> omega⟩⟩
   ·
    skip
    refine vc_sr ?_; refine vr 5 ?_; refine vco_cmp true rfl rfl (ceq_t (by omega)) ?_; refine vr 4 ?_
    by_cases h2 : ¬ S.ray.length = 0
    ·
     skip
     refine vco_cmp false rfl rfl (ceq_f (by omega)) ?_; refine vr 14 ?_; refine vco_k [6] ?_; refine vc_ret ⟨.inr rfl, _, .tmp rfl (.nil), ?_⟩; exact ⟨.refl _, false, rfl, ⟨(fun h => by cases h), fun h => by obtain ⟨_, h⟩ := h; rcases h with ⟨_, _, h9, _⟩ | ⟨h9, _⟩ | ⟨h9, _⟩; (rw [h9] at h2; exact absurd rfl h2); omega; omega⟩⟩
    ·
     skip
     refine vco_cmp true rfl rfl (ceq_t (by omega)) ?_; refine vr 5 ?_; refine vco_call rfl rfl (rFeasible_ok hp hs2 (by omega)) ?_; rintro _ H2 ⟨hl2, b2, rfl, hb2⟩
     cases b2
     ·
      skip
      refine vr 8 ?_; refine vco_k [6] ?_; refine vc_ret ⟨.inr rfl, _, .tmp rfl (.nil), ?_⟩; exact ⟨hl2, false, rfl, ⟨(fun h => by cases h), fun h => by obtain ⟨_, h⟩ := h; rcases h with ⟨_, _, _, h9, _⟩ | ⟨h9, _⟩ | ⟨h9, _⟩; exact hb2.2 h9; omega; omega⟩⟩
     ·
      skip
      refine vr 5 ?_; refine vco_call rfl rfl (rLevels_ok (hp.le hl2) (ho.le (vecUp N) hl2) (hS.le hl2) hf hN) ?_; rintro _ H3 ⟨hl3, b3, rfl, hb3⟩; refine vr 2 ?_; refine vco_k [6] ?_; refine vc_ret ⟨.inr rfl, _, .tmp rfl (.nil), ?_⟩; exact ⟨hl2.trans hl3, b3, rfl, ⟨fun h => ⟨hf, .inl ⟨hst, by omega, List.length_eq_zero_iff.1 (by omega), hb2.1 rfl, hb3.1 h⟩⟩, fun h => by obtain ⟨_, h⟩ := h; rcases h with ⟨_, _, _, _, h9⟩ | ⟨h9, _⟩ | ⟨h9, _⟩; exact hb3.2 h9; omega; omega⟩⟩
  ·
   have hst1 : ¬ S.status = 1 := by simpa using hb
   refine vc_sr ?_; refine vr 2 ?_; refine vco_k [1, 3, 5, 14, 41] ?_; refine vc_cond rfl (fun hb => ?_) (fun hb => ?_)
   ·
    have hst : S.status = 2 := by simpa using hb
    by_cases h1 : ¬ S.values.length = 0
    ·
     skip
     refine vc_sd .drawB [0, 1, 2, 3, 4, 5, 6, 7, 8, 9, 10, 11, 12, 13, 14, 15, 16, 17, 18, 19, 20, 21, 22, 23, 24, 25, 26, 27, 28, 29, 30] follows (by kernel_rfl) ?_; refine vr 3 ?_; refine vco_cmp false rfl rfl (ceq_f (by omega)) ?_; refine vr 27 ?_; refine vco_k [6] ?_; refine vc_ret ⟨.inr rfl, _, .tmp rfl (.nil), ?_⟩; exact ⟨.refl _, false, rfl, ⟨(fun h => by cases h), fun h => by obtain ⟨_, h⟩ := h; rcases h with ⟨h9, _⟩ | ⟨_, h5, h6, h7, d, h8, _⟩ | ⟨h9, _⟩; exact absurd h9 hst1; (exact (h1 (by rw [h5]; rfl)).elim); omega⟩⟩
    ·
     skip
     by_cases h2 : ¬ S.x.length = 0
     ·
      skip
      refine vc_sd .drawB [0, 1, 2, 3, 4, 5, 6, 7, 8, 9, 10, 11, 12, 13, 14, 15, 16, 17, 18, 19, 20, 21, 22, 23, 24, 25, 26, 27, 28, 29, 30] follows (by kernel_rfl) ?_; refine vr 3 ?_; refine vco_cmp true rfl rfl (ceq_t (by omega)) ?_; refine vr 4 ?_; refine vco_cmp false rfl rfl (ceq_f (by omega)) ?_; refine vr 22 ?_; refine vco_k [6] ?_; refine vc_ret ⟨.inr rfl, _, .tmp rfl (.nil), ?_⟩; exact ⟨.refl _, false, rfl, ⟨(fun h => by cases h), fun h => by obtain ⟨_, h⟩ := h; rcases h with ⟨h9, _⟩ | ⟨_, h5, h6, h7, d, h8, _⟩ | ⟨h9, _⟩; exact absurd h9 hst1; (exact (h2 (by rw [h6]; rfl)).elim); omega⟩⟩
     ·
      skip
      by_cases h3 : ¬ S.ray.length = 0
      ·
       skip
       refine vc_sd .drawB [0, 1, 2, 3, 4, 5, 6, 7, 8, 9, 10, 11, 12, 13, 14, 15, 16, 17, 18, 19, 20, 21, 22, 23, 24, 25, 26, 27, 28, 29, 30] follows (by kernel_rfl) ?_; refine vr 3 ?_; refine vco_cmp true rfl rfl (ceq_t (by omega)) ?_; refine vr 4 ?_; refine vco_cmp true rfl rfl (ceq_t (by omega)) ?_; refine vr 5 ?_; refine vco_cmp false rfl rfl (ceq_f (by omega)) ?_; refine vr 16 ?_; refine vco_k [6] ?_; refine vc_ret ⟨.inr rfl, _, .tmp rfl (.nil), ?_⟩; exact ⟨.refl _, false, rfl, ⟨(fun h => by cases h), fun h => by obtain ⟨_, h⟩ := h; rcases h with ⟨h9, _⟩ | ⟨_, h5, h6, h7, d, h8, _⟩ | ⟨h9, _⟩; exact absurd h9 hst1; (exact (h3 (by rw [h7]; rfl)).elim); omega⟩⟩
      ·
       skip
       by_cases h4 : ¬ S.duals.length = 1
       ·
        skip
        refine vc_sd .drawB [0, 1, 2, 3, 4, 5, 6, 7, 8, 9, 10, 11, 12, 13, 14, 15, 16, 17, 18, 19, 20, 21, 22, 23, 24, 25, 26, 27, 28, 29, 30] follows (by kernel_rfl) ?_; refine vr 3 ?_; refine vco_cmp true rfl rfl (ceq_t (by omega)) ?_; refine vr 4 ?_; refine vco_cmp true rfl rfl (ceq_t (by omega)) ?_; refine vr 5 ?_; refine vco_cmp true rfl rfl (ceq_t (by omega)) ?_; refine vr 5 ?_; refine vco_cmp false rfl rfl (ceq_f (by omega)) ?_; refine vr 10 ?_; refine vco_k [6] ?_; refine vc_ret ⟨.inr rfl, _, .tmp rfl (.nil), ?_⟩; exact ⟨.refl _, false, rfl, ⟨(fun h => by cases h), fun h => by obtain ⟨_, h⟩ := h; rcases h with ⟨h9, _⟩ | ⟨_, h5, h6, h7, d, h8, _⟩ | ⟨h9, _⟩; exact absurd h9 hst1; (exact (h4 (by rw [h8]; rfl)).elim); omega⟩⟩
       ·
        obtain ⟨d, hd⟩ : ∃ d, S.duals = [d] := by
         match hdd : S.duals with
         | [d] => exact ⟨d, rfl⟩
         | [] => rw [hdd] at h4; simp at h4
         | _ :: _ :: _ => rw [hdd] at h4; simp at h4
        obtain ⟨Bd, cd, hbd, hsd⟩ := vec_get he3 (i := 0) (l := d) (by rw [hd]; rfl); refine vc_sd .drawB [0, 1, 2, 3, 4, 5, 6, 7, 8, 9, 10, 11, 12, 13, 14, 15, 16, 17, 18, 19, 20, 21, 22, 23, 24, 25, 26, 27, 28, 29, 30] follows (by kernel_rfl) ?_; refine vr 3 ?_; refine vco_cmp true rfl rfl (ceq_t (by omega)) ?_; refine vr 4 ?_; refine vco_cmp true rfl rfl (ceq_t (by omega)) ?_; refine vr 5 ?_; refine vco_cmp true rfl rfl (ceq_t (by omega)) ?_; refine vr 5 ?_; refine vco_cmp true rfl rfl (ceq_t (by omega)) ?_; refine vr 5 ?_; refine vco_at tbOk rfl rfl rfl rfl rfl (hr3) (hbd) (by omega) (by omega) fun _ => ?_; refine vco_callM rfl rfl (rCheckInfeasible_ok hp hsd (by omega)) (fun _ _ h => by first | exact h.le | exact h.1) ?_; rintro _ H2 ⟨hl2, b2, rfl, hb2⟩; refine vr 2 ?_; refine vco_k [6] ?_; refine vc_ret ⟨.inr rfl, _, .tmp rfl (.nil), ?_⟩; exact ⟨hl2, b2, rfl, ⟨fun h => ⟨hf, .inr (.inl ⟨hst, List.length_eq_zero_iff.1 (by omega), List.length_eq_zero_iff.1 (by omega), List.length_eq_zero_iff.1 (by omega), d, hd, hb2.1 h⟩)⟩, fun h => by obtain ⟨_, h⟩ := h; rcases h with ⟨h9, _⟩ | ⟨_, _, _, _, d9, h8, h9⟩ | ⟨h9, _⟩; exact absurd h9 hst1; (rw [hd] at h8; cases h8; exact hb2.2 h9); omega⟩⟩
   ·
    have hst2 : ¬ S.status = 2 := by simpa using hb
    refine vc_sr ?_; refine vr 2 ?_; refine vco_k [1, 3, 5, 73] ?_; refine vc_cond rfl (fun hb => ?_) (fun hb => ?_)
    ·
     have hst : S.status = 3 := by simpa using hb
     refine vc_seq ?_
     by_cases h1 : os.length ≤ S.values.length
     ·
      skip
      refine vc_sr ?_; refine vr 5 ?_; refine vco_cmp true rfl rfl (cge_t (by omega)) ?_; refine vr 7 ?_; refine vco_k [1, 3, 5, 87] ?_; refine vc_cond_t rfl ?_; refine vc_sr ?_; refine vr 1 ?_; refine vco_k [6] ?_; refine vc_ret ⟨.inr rfl, _, .tmp rfl (.nil), ?_⟩; exact ⟨.refl _, false, rfl, ⟨(fun h => by cases h), fun h => by obtain ⟨_, h⟩ := h; rcases h with ⟨h9, _⟩ | ⟨h9, _⟩ | ⟨_, h9, _⟩ <;> omega⟩⟩
     ·
      skip
      refine vc_sr ?_; refine vr 5 ?_; refine vco_cmp false rfl rfl (cge_f (by omega)) ?_; refine vr 4 ?_; refine vco_call rfl rfl (rLevels_ok hp ho hS hf hN) ?_; rintro _ H2 ⟨hl2, b2, rfl, hb2⟩; refine vr 2 ?_; refine vco_k [1, 3, 5, 87] ?_; refine vc_cond rfl (fun hb => ?_) (fun hb => ?_)
      ·
       have hbf : b2 = false := by simpa using hb
       refine vc_sr ?_; refine vr 1 ?_; refine vco_k [6] ?_; refine vc_ret ⟨.inr rfl, _, .tmp rfl (.nil), ?_⟩; exact ⟨hl2, false, rfl, ⟨(fun h => by cases h), fun h => by obtain ⟨_, h⟩ := h; rcases h with ⟨h9, _⟩ | ⟨h9, _⟩ | ⟨_, _, h9, _⟩; exact absurd h9 hst1; exact absurd h9 hst2; (rw [hb2.2 h9] at hbf; cases hbf)⟩⟩
      ·
       have hlv := hb2.1 (by simpa using hb); obtain ⟨o, hoi⟩ : ∃ o, os[S.values.length]? = some o := ⟨_, List.getElem?_eq_getElem (by omega)⟩; obtain ⟨Bo, cb, hbx, hsl⟩ := vec_get hxo hoi; have hE0 : ExtE p os S.values 0 := fineE hf (by omega); refine vc_skip ?_; refine vc_keep [1, 3, 5] rfl ?_; refine vc_sr ?_; refine vr 4 ?_; refine vco_call rfl rfl (rExt_ok (N := N) (hp.le hl2) (ho.le (vecUp N) hl2) (hs1.le (ratUp N) hl2) (by omega) (by omega) (by omega)) ?_; rintro _ H3 ⟨hl3, Q1, g1, d1, Q2, g2, d2, e, rfl, hE, hq3⟩; obtain rfl := extE_unique hE0 hE; rw [extQ0] at hq3; have h03 := hl2.trans hl3; refine vr 3 ?_; refine vco_alloc el25 rfl ?_; obtain ⟨ti, hti, htz⟩ := sz25; refine vco_bstore (.inl ⟨rfl, rfl⟩) rfl rfl rfl hti htz rfl rfl rfl ?_; refine vr 1 ?_; refine vco_k [1, 5, 7, 8] ?_; refine vc_sd .drawB [0, 1, 2, 3, 4, 5, 6, 7, 8, 9, 10, 11, 12, 13, 14, 15, 16] follows (by kernel_rfl) ?_; refine vr 1 ?_; refine vco_cmp true rfl rfl (ceq_t rfl) ?_; refine vr 6 ?_; refine vco_at tbOk rfl rfl rfl rfl rfl (hro.le h03) (by rw [Int.toNat_natCast]; exact hbx) (by omega) (by omega) fun _ => ?_; refine vr 4 ?_; refine vco_callM rfl rfl (rCheckUnbounded_ok (N := N + 2) hq3 ((hsl.le (ratUp N) h03).mono fun _ _ h => RatP.mono h (by omega)) ((hs2.le (ratUp N) h03).mono fun _ _ h => RatP.mono h (by omega)) ((hs4.le (ratUp N) h03).mono fun _ _ h => RatP.mono h (by omega)) hN) (fun _ _ h => by first | exact h.le | exact h.1) ?_
       rintro _ H4 ⟨hl4, b4, rfl, hb4⟩; refine vr 2 ?_; refine vco_k [6] ?_; refine vc_ret ⟨.inr rfl, _, .tmp rfl (.nil), ?_⟩; exact ⟨h03.trans hl4, b4, rfl, ⟨fun h => ⟨hf, .inr (.inr ⟨hst, by omega, hlv, o, hoi, hb4.1 h⟩)⟩, fun h => by obtain ⟨_, h⟩ := h; rcases h with ⟨h9, _⟩ | ⟨h9, _⟩ | ⟨_, _, _, o9, k1, h9⟩; exact absurd h9 hst1; exact absurd h9 hst2; (rw [hoi] at k1; cases k1; exact hb4.2 h9)⟩⟩
    ·
     have hst3 : ¬ S.status = 3 := by simpa using hb
     refine vc_skip ?_; refine vc_keep [] rfl ?_; refine vc_sr ?_; refine vr 1 ?_; refine vco_k [6] ?_; refine vc_ret ⟨.inr rfl, _, .tmp rfl (.nil), ?_⟩; exact ⟨.refl _, false, rfl, ⟨(fun h => by cases h), fun h => by obtain ⟨_, h⟩ := h; rcases h with ⟨h9, _⟩ | ⟨h9, _⟩ | ⟨h9, _⟩; exact absurd h9 hst1; exact absurd h9 hst2; exact absurd h9 hst3⟩⟩
theorem lexmins_ok {H : Heap} {v ov : Value} {p : Prg} {os : List (List Rat)} {N : Nat} (hp : ProgV N H v p) (ho : LsV N H ov os) (hol : os.length ≤ 9223372036854775807) :
  Fn Tryz.prog 3 #[v, ov] H (fun v H' => Heap.le H H' ∧ v = .bool true) := by
 obtain ⟨fv, rv0, rfl, hfv, hrv0⟩ := id hp
 obtain ⟨Af, cf, xf, rfl, hrF, hxF⟩ := hfv.one
 obtain ⟨Ar, cr, xr, rfl, hcr, hrR, hxR⟩ := id hrv0
 obtain ⟨Ao, co, xo, rfl, hco, hro, hxo⟩ := id ho; refine fn_intro (args := [_, _]) Tryz.func3 rfl rfl Tryz.ntmps3 rfl rfl fun w0 => ?_; refine vc_keep [0, 1] rfl ?_; refine vc_sr ?_; refine vco_box rfl rfl ?_; refine vr 1 ?_; refine vco_k [1, 2] ?_; refine vc_seq ?_; refine vc_sr ?_; refine vco_call rfl rfl (sane3_ok) ?_; rintro _ H1 ⟨hl1, rfl⟩; refine vr 1 ?_; refine vco_k [1, 2, 9] ?_; refine vc_cond_f rfl ?_; refine vc_skip ?_; refine vc_keep [1, 2] rfl ?_; refine vc_seq ?_; refine vc_sr ?_; refine vr 2 ?_; refine vco_call rfl rfl (kept3_ok (hp.le hl1) (ho.le (vecUp N) hl1)) ?_; rintro _ H2 ⟨e2, b2, rfl, hb2⟩; rw [e2]; refine vr 1 ?_; refine vco_k [1, 2, 13] ?_; refine vc_cond rfl (fun hb => ?_) (fun hb => ?_)
 ·
  skip
  refine vc_sr ?_; refine vr 1 ?_; refine vco_k [4] ?_; refine vc_ret ⟨.inr rfl, _, .tmp rfl (.nil), ?_⟩; exact ⟨hl1, rfl⟩
 ·
  have hk := hb2 (by simpa using hb); have hlen := hk.len; refine vc_skip ?_; refine vc_keep [1, 2] rfl ?_; refine vc_sr ?_; refine vr 2 ?_; refine vco_call rfl rfl (lexMin_ok (N := 2) hk.sml.prog hk.obj (by decide) (by omega) (fun hf => hk.sz hf)) ?_; rintro _ H4 ⟨hl4, s, e, rfl, hE, hcs⟩
  obtain ⟨S, ⟨A1, c1, A2, c2, A3, c3, A4, c4, rfl, hs1, hs2, hs3, hs4⟩, hS⟩ : ∃ S, LexV H4 s S ∧ ((e ≠ 0 ∧ S = ⟨0, [], [], [], []⟩) ∨ (e = 0 ∧ ChkLex p os S)) := by
   rcases hcs with ⟨h9, h8⟩ | ⟨h9, S, h8, h7⟩
   · exact ⟨⟨0, [], [], [], []⟩, ⟨_, _, _, _, _, _, _, _, h8, slV_nil, slV_nil, slV_nil, slV_nil⟩, .inl ⟨h9, rfl⟩⟩
   · exact ⟨S, h8, .inr ⟨h9, h7⟩⟩
  have h04 := hl1.trans hl4; refine vr 3 ?_; refine vco_alloc el31 rfl ?_; obtain ⟨ti, hti, htz⟩ := sz31; refine vco_bstore (.inl ⟨rfl, rfl⟩) rfl rfl rfl hti htz rfl rfl rfl ?_; refine vr 1 ?_; refine vco_k [1, 2, 5, 6] ?_; refine vc_seq ?_; refine vc_sr ?_; refine vr 2 ?_; refine vco_call rfl rfl (rLexE_ok (hk.sml.prog.le hl4) (hk.obj.le (vecUp 2) hl4) hol) ?_; rintro _ H5 ⟨e5, e', rfl, hE'⟩; rw [e5]; obtain rfl := lexE_unique hE hE'; refine vr 1 ?_; refine vco_k [1, 2, 5, 6, 7] ?_; refine vc_sr ?_; refine vr 2 ?_; refine vco_k [1, 2, 5, 6, 7, 24] ?_; refine vc_cond rfl (fun hb => ?_) (fun hb => ?_)
  ·
   have hne : ¬ e = 0 := by simpa using hb
   obtain rfl : S = ⟨0, [], [], [], []⟩ := by
    rcases hS with ⟨_, h9⟩ | ⟨h9, _⟩
    · exact h9
    · exact absurd h9 hne
   refine vc_sr ?_; refine vr 2 ?_; refine vco_cmp true rfl rfl (ceq_t rfl) ?_; refine vr 3 ?_; refine vco_cmp true rfl rfl (ceq_t rfl) ?_; refine vr 5 ?_; refine vco_cmp true rfl rfl (ceq_t rfl) ?_; refine vr 2 ?_; refine vco_k [4] ?_; refine vc_ret ⟨.inr rfl, _, .tmp rfl (.nil), ?_⟩; exact ⟨h04, rfl⟩
  ·
   have heq : e = 0 := by simpa using hb
   subst heq
   have hchk : ChkLex p os S := by
    rcases hS with ⟨h9, _⟩ | ⟨_, h9⟩
    · exact absurd rfl h9
    · exact h9
   refine vc_skip ?_; refine vc_keep [1, 2, 5, 6] rfl ?_; refine vc_sr ?_; refine vr 1 ?_; refine vco_cmp true rfl rfl (ceq_t rfl) ?_; refine vr 4 ?_; refine vco_call rfl rfl (rCheckLex_ok (N := KX) (S := S) ((hk.sml.prog.le hl4).mono (by decide)) ((hk.obj.le (vecUp 2) hl4).mono fun _ _ h => VecP.mono h (by decide)) ⟨A1, c1, A2, c2, A3, c3, A4, c4, rfl, hs1, hs2, hs3, hs4⟩ hol (by decide)) ?_; rintro _ H6 ⟨hl6, b6, rfl, hb6⟩; obtain rfl : b6 = true := hb6.2 ⟨hE.fine, hchk⟩; refine vr 2 ?_; refine vco_k [4] ?_; refine vc_ret ⟨.inr rfl, _, .tmp rfl (.nil), ?_⟩; exact ⟨h04.trans hl6, rfl⟩
end Go.Eng
