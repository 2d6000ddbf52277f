/- Walks over package amortcostlaw22: sane. -/
import Derived.Test.YtemchaglffchjaaA10
import Derived.Test.YtemchaglffchjaaSane1
import Derived.Test.YtemchaglffchjaaSmp8
set_option linter.unusedVariables false
namespace Go.Eng
open Go.Proofs Num Lp
theorem rats2_ok {H : Heap} {v : Value} {a b : Int} (hv : SlV IntP 1 H v [a, b]) (ha : -9 ≤ a ∧ a ≤ 9) (hb : -9 ≤ b ∧ b ≤ 9) : Fn Try.prog 9 #[v] H (fun v' H' => Heap.le H H' ∧ ∃ A c, v' = .slice A 2 c ∧ SlV CanP 3 H' (.slice A 2 c) [(a : Rat), (b : Rat)]) :=
  (rats_ok hv (fun z hz => by simp only [List.mem_cons, List.not_mem_nil, or_false] at hz; rcases hz with rfl | rfl <;> omega) (by show ((2 : Nat) : Int) ≤ _; decide)).mono fun v' H' ⟨h1, h2⟩ => by
    obtain ⟨A, c, xs, rfl, h3⟩ := id h2
    exact ⟨h1, A, c, rfl, h2⟩
/-- What Minimize gives for sane's program. -/
theorem sane_min {H H' : Heap} {v : Value} (h : MinP sp [1, 1] (bits sl sp.lp.m sp.lp.m (2 * Tab.wts sl)) H v H') : Heap.le H H' ∧ ∃ f A1 m1 c1 A2 m2 c2 Ax kx cx Ad kd cd Ar kr cr S, v = .tuple #[.agg #[.int .i64 1, .bool f, .slice A1 m1 c1, .slice A2 m2 c2, .slice Ax kx cx, .slice Ad kd cd, .slice Ar kr cr], .int .i64 0] ∧ S.status = 1 ∧ S.value = 14 / 5 ∧ CanV H' (.agg #[.bool f, .slice A1 m1 c1, .slice A2 m2 c2]) S.value ∧ SlV CanP 3 H' (.slice Ax kx cx) S.x ∧ SlV CanP 3 H' (.slice Ad kd cd) S.dual ∧ SlV CanP 3 H' (.slice Ar kr cr) S.ray ∧ Chk sp [1, 1] S ∧ SolZ 1000000 S := by
  obtain ⟨hl, s, e, rfl, h⟩ := h
  refine ⟨hl, ?_⟩
  rcases h with ⟨h1, _⟩ | ⟨_, h1, _⟩ | ⟨_, _, rfl, S, h1, h2, h3, _⟩
  · exact absurd sp_ok h1
  · exact absurd rfl h1
  · obtain ⟨f, u, w, xv, dv, rv, rfl, h4, h5, h6, h7⟩ := h1
    obtain ⟨k1, k2⟩ : S.status = 1 ∧ S.value = 14 / 5 := by
      rcases h2.sem with ⟨k1, k2⟩ | ⟨k1, k2, _⟩ | ⟨k1, k2, _⟩
      · exact ⟨k1, LP.opt_opt k2 sp_opt⟩
      · exact (LP.opt_inf sp_opt k2).elim
      · exact (LP.opt_unb sp_opt k2).elim
    have h8 : CanV H' (.agg #[.bool f, u, w]) S.value := by
      rcases h4 with h4 | ⟨h4, _⟩
      · exact h4
      · rw [k2] at h4; exact absurd h4 (by grind)
    obtain ⟨u', w', e, hu, hw⟩ := id h8
    have e' := arr3 (vs := [.bool f, u, w]) e
    simp only [List.cons.injEq, and_true] at e'
    obtain ⟨_, rfl, rfl⟩ := e'
    obtain ⟨A1, c1, rfl, _⟩ := id hu
    obtain ⟨A2, c2, rfl, _⟩ := id hw
    obtain ⟨Ax, cx, _, rfl, _⟩ := id h5
    obtain ⟨Ad, cd, _, rfl, _⟩ := id h6
    obtain ⟨Ar, cr, _, rfl, _⟩ := id h7
    have h9 := sp_bits
    exact ⟨_, _, _, _, _, _, _, _, _, _, _, _, _, _, _, _, S, by rw [k1], k1, k2, h8, h5, h6, h7, h2, fun q hq => Nat.le_trans (h3 q hq) (by omega)⟩
theorem sane_ok {H : Heap} :
  Fn Try.prog 5 #[] H (fun v H' => Heap.le H H' ∧ v = .bool true) := by
 refine fn_intro (args := []) Try.func5 rfl rfl Try.ntmps5 rfl rfl fun w0 => ?_; refine vc_keep [] rfl ?_; refine vc_sr ?_; refine vr 1 ?_; refine vco_k [] ?_; refine vc_sr ?_; refine vco_build Try.underlying24 el4 rfl rfl rfl rfl rfl rfl rfl ?_; intro g0 hg0; have hf0 : SlV BoolP 1 _ _ [false, false] := slV_of_whole (H := H) (g := g0) (e := 4) (P := BoolP) (sz := 1) (k := 2) (xs := cellsL [.bool false, .bool false]) (l := [false, false]) rfl (els_cons (vs := [.bool false]) rfl rfl (els_cons (vs := [.bool false]) rfl rfl els_nil)); have hl0 := Heap.le_ins (whole (cellsL [.bool false, .bool false]) 4) hg0; refine vco_build Try.underlying58 el2 rfl rfl rfl rfl rfl rfl rfl ?_; intro g1 hg1; have hl1 := Heap.le_ins (whole (cellsL [.int .i64 1, .int .i64 2]) 2) hg1; refine vco_call rfl rfl (rats2_ok (slV_ints2 1 2) (by omega) (by omega)) ?_; rintro _ H2 ⟨hl2, A2, c2, rfl, hs2⟩; have h02 := hl1.trans hl2; refine vco_call rfl rfl (from_ok (by omega) (by omega)) ?_; rintro _ H3 ⟨hl3, f3, A31, m31, c31, A32, m32, c32, rfl, hq3⟩; have h03 := h02.trans hl3; refine vco_st tbOk rfl el33 rfl rfl ?_; refine vco_build Try.underlying58 el2 rfl rfl rfl rfl rfl rfl rfl ?_; intro g4 hg4; have hl4 := Heap.le_ins (whole (cellsL [.int .i64 3, .int .i64 1]) 2) hg4; refine vco_call rfl rfl (rats2_ok (slV_ints2 3 1) (by omega) (by omega)) ?_; rintro _ H5 ⟨hl5, A5, c5, rfl, hs5⟩; have h35 := hl4.trans hl5; refine vco_call rfl rfl (from_ok (by omega) (by omega)) ?_; rintro _ H6 ⟨hl6, f6, A61, m61, c61, A62, m62, c62, rfl, hq6⟩
 have h36 := h35.trans hl6; refine vco_st tbOk rfl el33 rfl rfl ?_; refine vco_build Try.underlying25 el33 rfl rfl rfl rfl rfl rfl rfl ?_; intro g9 hg9; have hl9 := Heap.le_ins (whole (cellsL [.agg #[.slice A2 2 c2, .int .i64 3, .bool f3, .slice A31 m31 c31, .slice A32 m32 c32], .agg #[.slice A5 2 c5, .int .i64 3, .bool f6, .slice A61 m61 c61, .slice A62 m62 c62]]) 33) hg9
 show VCO _ _ _ _ _ _ (ins H6 g9 (whole (cellsL [.agg #[.slice A2 2 c2, .int .i64 3, .bool f3, .slice A31 m31 c31, .slice A32 m32 c32], .agg #[.slice A5 2 c5, .int .i64 3, .bool f6, .slice A61 m61 c61, .slice A62 m62 c62]]) 33)) _
 generalize hH9 : ins H6 g9 (whole (cellsL [.agg #[.slice A2 2 c2, .int .i64 3, .bool f3, .slice A31 m31 c31, .slice A32 m32 c32], .agg #[.slice A5 2 c5, .int .i64 3, .bool f6, .slice A61 m61 c61, .slice A62 m62 c62]]) 33) = H9 at hl9 ⊢
 have h29 := (hl3.trans h36).trans hl9
 have hp9 : ProgV 2 H9 (.agg #[.slice (some ⟨g0, 0, none⟩) 2 2, .slice (some ⟨g9, 0, none⟩) 2 2]) sp := by
  refine ⟨_, _, rfl, hf0.le boolUp (h02.trans h29), ?_⟩
  have hz1 : ∀ q : Rat, q ∈ [((1 : Int) : Rat), ((2 : Int) : Rat)] → szQ q ≤ 2 := by decide
  have hz2 : ∀ q : Rat, q ∈ [((3 : Int) : Rat), ((1 : Int) : Rat)] → szQ q ≤ 2 := by decide
  have r1 : RowP 2 H9 [.slice A2 2 c2, .int .i64 3, .bool f3, .slice A31 m31 c31, .slice A32 m32 c32] ([1, 2], 3, 4) := ⟨_, _, _, _, rfl, (hs2.can_rat hz1).le (ratUp 2) h29, ((CanV.raw hq3).mono (by decide)).le (h36.trans hl9)⟩; have r2 : RowP 2 H9 [.slice A5 2 c5, .int .i64 3, .bool f6, .slice A61 m61 c61, .slice A62 m62 c62] ([3, 1], 3, 6) := ⟨_, _, _, _, rfl, (hs5.can_rat hz2).le (ratUp 2) (hl6.trans hl9), ((CanV.raw hq6).mono (by decide)).le hl9⟩; rw [← hH9] at r1 r2 ⊢; exact slV_of_whole (l := sp.rows) rfl (els_cons r1 rfl (els_cons r2 rfl els_nil))
 have h09 := (hl0.trans h02).trans h29; clear hf0 hs2 hs5 hq3 hq6; refine vco_st tbOk rfl el27 rfl rfl ?_; refine vco_alloc el27 rfl ?_; obtain ⟨ti, hti, htz⟩ := sz27; refine vco_bstore (.inl ⟨rfl, rfl⟩) rfl rfl rfl hti htz rfl rfl rfl ?_; refine vco_k [1] ?_; refine vc_sd .drawB [0, 1, 2, 3, 4, 5, 6, 7, 8, 9] follows (by kernel_rfl) ?_; refine vr 1 ?_; refine vco_build Try.underlying58 el2 rfl rfl rfl rfl rfl rfl rfl ?_; intro g1 hg1; have hl1 := Heap.le_ins (whole (cellsL [.int .i64 1, .int .i64 1]) 2) hg1; refine vco_callM rfl rfl (rats2_ok (slV_ints2 1 1) (by omega) (by omega)) (fun _ _ h => by first | exact h.le | exact h.1) ?_; rintro _ H10 ⟨hl10, A10, c10, rfl, hs10⟩; have h910 := hl1.trans hl10
 have hz1 : ∀ q : Rat, q ∈ [((1 : Int) : Rat), ((1 : Int) : Rat)] → szQ q ≤ 2 := by decide
 have hc10 : SlV (RatP 2) 3 H10 (.slice A10 2 c10) [1, 1] := hs10.can_rat hz1; refine vco_callM rfl rfl ((Minimize_ok (hp9.le h910) hc10 sp_fit (by decide) (by decide) (by have h9 := sp_bits; omega)).mono fun _ _ h => sane_min h) (fun _ _ h => by first | exact h.le | exact h.1) ?_; rintro _ H11 ⟨hl11, f11, B1, m1, e1, B2, m2, e2, Bx, kx, ex, Bd, kd, ed, Br, kr, er, S, rfl, hst, hval, hcan, hsx, hsd, hsr, hchk, hsz⟩; refine vr 3 ?_; refine vco_alloc el46 rfl ?_; obtain ⟨ti, hti, htz⟩ := sz46; refine vco_bstore (.inl ⟨rfl, rfl⟩) rfl rfl rfl hti htz rfl rfl rfl ?_; refine vr 1 ?_; refine vco_k [1, 2, 3] ?_; have h011 := h09.trans (h910.trans hl11); have hp11 := hp9.le (h910.trans hl11)
 have hchk1 : Chk sp [1, 1] ⟨1, S.value, S.x, S.dual, S.ray⟩ := by rw [← hst]; exact hchk
 have hxl : (S.x.length : Int) ≤ 1099511627776 := by
  rcases hchk with ⟨_, _, h, _⟩ | ⟨h, _⟩ | ⟨h, _⟩
  · rw [h.feas.len]; decide
  · rw [hst] at h; exact absurd h (by decide)
  · rw [hst] at h; exact absurd h (by decide)
 refine vc_sd .drawB [0, 1, 2, 3, 4, 5, 6, 7, 8, 9, 10, 11, 12, 13, 14, 15, 18, 16, 17, 19, 20, 21] follows (by kernel_rfl) ?_; refine vr 10 ?_
 refine vco_callM rfl rfl ((rSmall_ok (H := H11) (a := 14) (b := 5) (by decide) (by decide) (by decide) (by decide)).mono fun v H' h => (⟨h.1, by
 exact ⟨v, rfl, by rw [hval, show (14 / 5 : Rat) = ((14 : Int) : Rat) / ((5 : Int) : Rat) from rfl]; exact h.2⟩⟩ : Heap.le H11 H' ∧ ∃ v0, v = v0 ∧ CanV H' v0 S.value)) (fun _ _ h => by first | exact h.le | exact h.1) ?_
 rintro _ H12 ⟨hl12, v12, rfl, hq12⟩; refine vco_callM rfl rfl ((rCmp_ok (N := 1000000) (((CanV.raw hcan).mono (hsz _ (.inr (.inr (.inr rfl))))).le hl12) ((CanV.raw hq12).mono (hsz _ (.inr (.inr (.inr rfl))))) (by decide)).mono fun v H' h => (⟨h.1, by rw [h.2, cmpQ_self]⟩ : Heap.le H12 H' ∧ v = .int .i64 0)) (fun _ _ h => by first | exact h.le | exact h.1) ?_; rintro _ H13 ⟨hl13, rfl⟩; refine vr 5 ?_; refine vco_build Try.underlying58 el2 rfl rfl rfl rfl rfl rfl rfl ?_; intro g1 hg1; have hl14 := Heap.le_ins (whole (cellsL [.int .i64 1, .int .i64 1]) 2) hg1; refine vco_callM rfl rfl (rats2_ok (slV_ints2 1 1) (by omega) (by omega)) (fun _ _ h => by first | exact h.le | exact h.1) ?_; rintro _ H15 ⟨hl15, A15, c15, rfl, hs15⟩; have hz2 : ∀ q : Rat, q ∈ [((1 : Int) : Rat), ((1 : Int) : Rat)] → szQ q ≤ 1000000 := fun q hq => Nat.le_trans (hz1 q hq) (by decide); have hc15 : SlV (RatP 1000000) 3 H15 (.slice A15 2 c15) [1, 1] := hs15.can_rat hz2; have h1115 := (hl12.trans hl13).trans (hl14.trans hl15); refine vco_callM rfl rfl (Fn.yes (Check_ok (S := ⟨1, S.value, S.x, S.dual, S.ray⟩) (N := 1000000) ((hp11.mono (by decide)).le h1115) hc15 (((CanV.raw hcan).mono (hsz _ (.inr (.inr (.inr rfl))))).le h1115) ((hsx.can_rat fun q hq => hsz q (.inl hq)).le (ratUp _) h1115) ((hsd.can_rat fun q hq => hsz q (.inr (.inl hq))).le (ratUp _) h1115) ((hsr.can_rat fun q hq => hsz q (.inr (.inr (.inl hq)))).le (ratUp _) h1115) hxl (by decide)) hchk1) (fun _ _ h => by first | exact h.le | exact h.1) ?_
 rintro _ H16 ⟨hl16, rfl⟩; refine vr 2 ?_; refine vco_k [0] ?_; refine vc_ret ⟨.inr rfl, _, .tmp rfl (.nil), ?_⟩; exact ⟨h011.trans (h1115.trans hl16), rfl⟩
end Go.Eng
