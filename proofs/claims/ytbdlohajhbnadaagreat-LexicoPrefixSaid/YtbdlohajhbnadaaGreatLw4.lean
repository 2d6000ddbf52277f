/- LexicoPrefix: the law's walk. -/
import Derived.Test.YtbdlohajhbnadaaGreatA10
import Derived.Test.YtbdlohajhbnadaaGreatLw3
import Derived.Test.YtbdlohajhbnadaaGreatPlc
set_option linter.unusedVariables false
namespace Go.Eng
open Go.Proofs Num Lp
theorem ext_take {p : Prg} {os : List (List Rat)} {vs : List Rat} {n : Nat} (h : vs.length ≤ n) : extP p (os.take n) vs = extP p os vs := by
  unfold extP
  have e : (os.take n).zip vs = os.zip vs := by
    apply List.ext_getElem?
    intro i
    by_cases hi : i < n
    · simp only [List.zip, List.getElem?_zipWith, List.getElem?_take, if_pos hi]
    · rw [List.getElem?_eq_none (by rw [List.length_zip]; omega), List.getElem?_eq_none (by rw [List.length_zip]; omega)]
  rw [e]
theorem lev_take {p : Prg} {os : List (List Rat)} {vs : List Rat} {n : Nat} (h : Lev p os vs) : Lev p (os.take n) (vs.take n) := by
  refine ⟨by rw [List.length_take, List.length_take]; have := h.1; omega, fun i o v h1 h2 => ?_⟩
  rw [List.getElem?_take] at h1 h2
  split at h1
  · rename_i hi
    rw [if_pos hi] at h2
    rw [List.take_take, Nat.min_eq_left (by omega), ext_take (by rw [List.length_take]; omega)]
    exact h.2 i o v h1 h2
  · cases h1
theorem lex_pre {p : Prg} {os : List (List Rat)} {st t : Int} {vs ws : List Rat} {n : Nat} (hn : n ≤ os.length) (h : LexR p os st vs) (k : LexR p (os.take n) t ws) :
    (t = 1 ∧ st ≠ 2 ∧ n ≤ vs.length ∧ ws = vs.take n) ∨ (¬ (t = 1 ∧ st ≠ 2) ∧ t = st ∧ ws = vs.take (min n vs.length)) := by
  have htl : (os.take n).length = n := by rw [List.length_take]; omega
  rcases h with ⟨h1, h2, h3, x, hx⟩ | ⟨h1, h2, h3⟩ | ⟨h1, h3, o, h4, h5⟩
  · have hr : LexR p (os.take n) 1 (vs.take n) := .inl ⟨rfl, by rw [List.length_take, htl]; omega, lev_take h3, x, hx⟩
    obtain ⟨e1, e2⟩ := lex_unique k hr
    exact .inl ⟨e1, by omega, by omega, e2⟩
  · have hr : LexR p (os.take n) 2 [] := .inr (.inl ⟨rfl, rfl, h3⟩)
    obtain ⟨e1, e2⟩ := lex_unique k hr
    exact .inr ⟨by omega, by omega, by rw [e2, h2]; simp⟩
  · have hlt := (List.getElem?_eq_some_iff.1 h4).1
    by_cases hnl : n ≤ vs.length
    · have hfe : ∃ x, p.lp.Meets 1 x := by
        obtain ⟨⟨x, hx⟩, _⟩ := h5
        exact ⟨x, ((ext_meets h3.1).1 hx).1⟩
      have hr : LexR p (os.take n) 1 (vs.take n) := .inl ⟨rfl, by rw [List.length_take, htl]; omega, lev_take h3, hfe⟩
      obtain ⟨e1, e2⟩ := lex_unique k hr
      exact .inl ⟨e1, by omega, hnl, e2⟩
    · have e0 : vs.take n = vs := List.take_of_length_le (by omega)
      have hl := lev_take (n := n) h3
      rw [e0] at hl
      have hr : LexR p (os.take n) 3 vs := .inr (.inr ⟨rfl, hl, o, by rw [List.getElem?_take, if_pos (by omega)]; exact h4, by rw [ext_take (by omega)]; exact h5⟩)
      obtain ⟨e1, e2⟩ := lex_unique k hr
      exact .inr ⟨by omega, by omega, by rw [e2, Nat.min_eq_right (by omega), List.take_length]⟩
theorem fine_take {p : Prg} {os : List (List Rat)} (h : LexFine p os) (n : Nat) : LexFine p (os.take n) := ⟨h.ok, fun o ho => h.vec o (List.mem_of_mem_take ho), by have := h.lev; rw [List.length_take]; omega, by have := h.rows; rw [List.length_take]; omega⟩
theorem lexpre_ok {H : Heap} {v ov : Value} {p : Prg} {os : List (List Rat)} {N : Nat} {x : Int} (hp : ProgV N H v p) (ho : LsV N H ov os) (hx0 : 0 ≤ x) (hx1 : x ≤ 255) (hol : os.length ≤ 9223372036854775807) :
  Fn Tryz.prog 6 #[v, ov, .int .u8 x] H (fun v H' => Heap.le H H' ∧ v = .bool true) := by
 obtain ⟨fv, rv0, rfl, hfv, hrv0⟩ := id hp
 obtain ⟨Af, cf, xf, rfl, hrF, hxF⟩ := hfv.one
 obtain ⟨Ar, cr, xr, rfl, hcr, hrR, hxR⟩ := id hrv0
 obtain ⟨Ao, co, xo, rfl, hco, hro, hxo⟩ := id ho; refine fn_intro (args := [_, _, _]) Tryz.func6 rfl rfl Tryz.ntmps6 rfl rfl fun w0 => ?_; refine vc_keep [0, 1, 2] rfl ?_; refine vc_sr ?_; refine vco_box rfl rfl ?_; refine vr 1 ?_; refine vco_k [1, 2, 3] ?_; refine vc_seq ?_; refine vc_sr ?_; refine vco_call rfl rfl (sane3_ok) ?_; rintro _ H1 ⟨hl1, rfl⟩; refine vr 1 ?_; refine vco_k [1, 2, 3, 14] ?_; refine vc_cond_f rfl ?_; refine vc_skip ?_; refine vc_keep [1, 2, 3] rfl ?_; refine vc_seq ?_; refine vc_sr ?_; refine vr 2 ?_; refine vco_call rfl rfl (solvable3_ok (hp.le hl1) (ho.le (vecUp N) hl1) hol) ?_; rintro _ H2 ⟨e2, b2, rfl, hb2⟩; rw [e2]; refine vr 1 ?_; refine vco_k [1, 2, 3, 18] ?_; refine vc_cond rfl (fun hb => ?_) (fun hb => ?_)
 ·
  skip
  refine vc_sr ?_; refine vr 1 ?_; refine vco_k [6] ?_; refine vc_ret ⟨.inr rfl, _, .tmp rfl (.nil), ?_⟩; exact ⟨hl1, rfl⟩
 ·
  obtain ⟨hk, hf⟩ := hb2 (by simpa using hb); have hz := hk.sz hf; have hol4 := hk.len; refine vc_skip ?_; refine vc_keep [1, 2, 3] rfl ?_; refine vc_sr ?_; refine vr 3 ?_; refine vco_add rfl rfl ⟨by omega, by omega⟩ ?_; refine vco_call rfl rfl (placeAny_ok (n := os.length + 1) hx0 hx1 (by omega)) ?_; rintro _ H3 ⟨_, e3, n, rfl, hn1, hn2⟩; rw [e3]
  have hn : n ≤ os.length := by have h9 := hn2 (by omega); omega
  refine vr 1 ?_; refine vco_k [1, 3, 7] ?_; refine vc_sr ?_; refine vr 2 ?_; refine vco_call rfl rfl (lexQ_ok (N := 2) hk.sml.prog hk.obj (by decide) hf hz) ?_; rintro _ H3 ⟨hl3, S, A31, c31, A32, c32, A33, c33, A34, c34, rfl, hchk3, hv31, hv32, hv33, hv34⟩; have hk3 := hk.le hl3; have ho3 := hk3.obj.upto hn; have hcp := hk3.obj.cap; have hkt : Kpt H3 _ (.slice (if co = 0 then Ao else Ao.map (·.add (0 * 1))) (n - 0) (co - 0)) p (os.take n) := ⟨hk3.sml, ho3, by rw [List.length_take]; omega, fun o h => hk3.vec o (List.mem_of_mem_take h)⟩; refine vr 3 ?_; refine vco_alloc el31 rfl ?_; obtain ⟨ti, hti, htz⟩ := sz31; refine vco_bstore (.inl ⟨rfl, rfl⟩) rfl rfl rfl hti htz rfl rfl rfl ?_; refine vr 1 ?_; refine vco_k [1, 3, 7, 8, 9] ?_; refine vc_sd .drawB [0, 1, 2, 3, 4, 5, 6, 7, 8, 9, 10] follows (by kernel_rfl) ?_; refine vr 3 ?_; refine vco_slice tbOk rfl rfl (.inl ⟨rfl, rfl⟩) (.inr ⟨_, _, rfl, rfl⟩) (by omega) (by omega) ?_; refine vco_callM rfl rfl (lexQ_ok (N := 2) hkt.sml.prog ho3 (by decide) (fine_take hf n) (hkt.sz (fine_take hf n))) (fun _ _ h => by first | exact h.le | exact h.1) ?_; rintro _ H4 ⟨hl4, T, A41, c41, A42, c42, A43, c43, A44, c44, rfl, hchk4, hv41, hv42, hv43, hv44⟩; refine vr 3 ?_; refine vco_alloc el31 rfl ?_; obtain ⟨ti, hti, htz⟩ := sz31; refine vco_bstore (.inl ⟨rfl, rfl⟩) rfl rfl rfl hti htz rfl rfl rfl ?_; refine vr 1 ?_; refine vco_k [7, 8, 9, 10, 11] ?_
  refine vc_seq ?_; refine vc_sr ?_; refine vr 6 ?_; refine vco_k [7, 8, 10, 43] ?_; refine vc_cond_f rfl ?_; refine vc_skip ?_; refine vc_keep [7, 8, 10] rfl ?_; refine vc_sr ?_; refine vr 4 ?_; refine vco_min rfl rfl ?_; refine vr 1 ?_; refine vco_k [7, 8, 10, 12] ?_; have h04 := hl1.trans (hl3.trans hl4)
  have hmn : (if (S.values.length : Int) < (n : Int) then (S.values.length : Int) else (n : Int)) = ((min n S.values.length : Nat) : Int) := by split <;> omega
  rw [hmn]; have hcv := hv31.cap; refine vc_seq ?_; obtain ⟨h1, h2, h3, h4⟩ | ⟨h1, h2, h3⟩ := lex_pre hn hchk3.sem hchk4.sem
  ·
   skip
   refine vc_sr ?_; refine vr 2 ?_; refine vco_cmp true rfl rfl (ceq_t h1) ?_; refine vr 3 ?_; refine vco_cmp true rfl rfl (cne_t h2) ?_; refine vr 1 ?_; refine vco_k [7, 8, 10, 12, 56] ?_; refine vc_cond_t rfl ?_; refine vc_sd .drawB [0, 1, 2, 3, 4, 5, 6, 7, 8, 9, 10, 11, 12, 13, 14] follows (by kernel_rfl) ?_; refine vr 4 ?_; refine vco_cmp true rfl rfl (cge_t (by omega)) ?_; refine vr 6 ?_; refine vco_slice tbOk rfl rfl (.inl ⟨rfl, rfl⟩) (.inr ⟨_, _, rfl, rfl⟩) (by omega) (by omega) ?_; refine vco_callM rfl rfl (sameRats_ok (N := KX) (l := S.values.take n) (by rw [← h4]; exact hv41) ((hv31.le (ratUp KX) hl4).upto h3) (by rw [List.length_take]; omega) (by decide)) (fun _ _ h => by first | exact h.le | exact h.1) ?_; rintro _ H5 ⟨hl5, rfl⟩; refine vr 2 ?_; refine vco_k [6] ?_; refine vc_ret ⟨.inr rfl, _, .tmp rfl (.nil), ?_⟩; exact ⟨h04.trans hl5, rfl⟩
  ·
   skip
   by_cases h9 : T.status = 1
   ·
    have h8 : S.status = 2 := by by_cases h7 : S.status = 2; exact h7; exact absurd ⟨h9, h7⟩ h1
    refine vc_sr ?_; refine vr 2 ?_; refine vco_cmp true rfl rfl (ceq_t h9) ?_; refine vr 3 ?_; refine vco_cmp false rfl rfl (cne_f h8) ?_; refine vr 1 ?_; refine vco_k [7, 8, 10, 12, 56] ?_; refine vc_cond_f rfl ?_; refine vc_skip ?_; refine vc_keep [8, 10, 12] rfl ?_; refine vc_sd .drawB [0, 1, 2, 3, 4, 5, 6, 7, 8, 9, 10, 11, 12, 13, 14] follows (by kernel_rfl) ?_; refine vr 4 ?_; refine vco_cmp true rfl rfl (ceq_t h2) ?_; refine vr 6 ?_; refine vco_slice tbOk rfl rfl (.inl ⟨rfl, rfl⟩) (.inr ⟨_, _, rfl, rfl⟩) (by omega) (by omega) ?_; refine vco_callM rfl rfl (sameRats_ok (N := KX) (l := S.values.take (min n S.values.length)) (by rw [← h3]; exact hv41) ((hv31.le (ratUp KX) hl4).upto (by omega)) (by rw [List.length_take]; omega) (by decide)) (fun _ _ h => by first | exact h.le | exact h.1) ?_; rintro _ H5 ⟨hl5, rfl⟩; refine vr 2 ?_; refine vco_k [6] ?_; refine vc_ret ⟨.inr rfl, _, .tmp rfl (.nil), ?_⟩; exact ⟨h04.trans hl5, rfl⟩
   ·
    skip
    refine vc_sr ?_; refine vr 2 ?_; refine vco_cmp false rfl rfl (ceq_f h9) ?_; refine vr 5 ?_; refine vco_k [7, 8, 10, 12, 56] ?_; refine vc_cond_f rfl ?_; refine vc_skip ?_; refine vc_keep [8, 10, 12] rfl ?_; refine vc_sd .drawB [0, 1, 2, 3, 4, 5, 6, 7, 8, 9, 10, 11, 12, 13, 14] follows (by kernel_rfl) ?_; refine vr 4 ?_; refine vco_cmp true rfl rfl (ceq_t h2) ?_; refine vr 6 ?_; refine vco_slice tbOk rfl rfl (.inl ⟨rfl, rfl⟩) (.inr ⟨_, _, rfl, rfl⟩) (by omega) (by omega) ?_; refine vco_callM rfl rfl (sameRats_ok (N := KX) (l := S.values.take (min n S.values.length)) (by rw [← h3]; exact hv41) ((hv31.le (ratUp KX) hl4).upto (by omega)) (by rw [List.length_take]; omega) (by decide)) (fun _ _ h => by first | exact h.le | exact h.1) ?_; rintro _ H5 ⟨hl5, rfl⟩; refine vr 2 ?_; refine vco_k [6] ?_; refine vc_ret ⟨.inr rfl, _, .tmp rfl (.nil), ?_⟩; exact ⟨h04.trans hl5, rfl⟩
end Go.Eng
