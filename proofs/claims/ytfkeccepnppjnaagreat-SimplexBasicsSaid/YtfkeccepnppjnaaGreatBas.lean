/- SimplexBasics: the law's walk. -/
import Derived.Test.YtfkeccepnppjnaaGreatA11
import Derived.Test.YtfkeccepnppjnaaGreatAcc
set_option linter.unusedVariables false
namespace Go.Eng
open Go.Proofs Num Lp
theorem ValP.rc {c x : List Rat} {H H' : Heap} {v : Value} (h : ValP c x H v H') : Heap.le H H' ∧ ∃ (t : RC) (e : Int), v = .tuple #[t.v, .int .i64 e] ∧ ((c.length ≠ x.length ∧ e = 21 ∧ t = ⟨false, none, 0, 0, none, 0, 0⟩) ∨ (c.length = x.length ∧ e = 0 ∧ CanV H' t.v (dotN c.length (fn c) (fn x)))) := by
  obtain ⟨hl, s, e, rfl, h⟩ := h
  refine ⟨hl, ?_⟩
  rcases h with ⟨h1, rfl, rfl⟩ | ⟨h1, rfl, h2⟩
  · exact ⟨⟨false, none, 0, 0, none, 0, 0⟩, 21, rfl, .inl ⟨h1, rfl, rfl⟩⟩
  · obtain ⟨t, rfl⟩ := h2.rc
    exact ⟨t, 0, rfl, .inr ⟨h1, rfl, h2⟩⟩
theorem basics_ok {H : Heap} {v cv xv : Value} {p : Prg} {c x : List Rat} {N : Nat} (hp : ProgV N H v p) (hc : SlV (RatP N) 3 H cv c) (hx : SlV (RatP N) 3 H xv x) :
  Fn Tryz.prog 11 #[v, cv, xv] H (fun v H' => Heap.le H H' ∧ v = .bool true) := by
 obtain ⟨fv, rv0, rfl, hfv, hrv0⟩ := id hp
 obtain ⟨Af, cf, xf, rfl, hrF, hxF⟩ := hfv.one
 obtain ⟨Ar, cr, xr, rfl, hcr, hrR, hxR⟩ := hrv0
 obtain ⟨AC, cC, xC, rfl, hcC, hrC, hxC⟩ := id hc
 obtain ⟨AX, cX, xX, rfl, hcX, hrX, hxX⟩ := id hx
 refine fn_intro (args := [_, _, _]) Tryz.func11 rfl rfl Tryz.ntmps11 rfl rfl fun w0 => ?_
 refine vc_keep [0, 1, 2] rfl ?_
 refine vc_sr ?_
 refine vco_box rfl rfl ?_
 refine vco_run tbOk 1 rfl ?_
 refine vco_k [1, 2, 3] ?_
 refine vc_seq ?_
 refine vc_sr ?_
 refine vco_call rfl rfl (sane_ok) ?_
 rintro _ H1 ⟨hl1, rfl⟩
 refine vco_run tbOk 1 rfl ?_
 refine vco_k [1, 2, 3, 12] ?_
 refine vc_cond_f rfl ?_
 refine vc_skip ?_
 refine vc_keep [1, 2, 3] rfl ?_
 refine vc_seq ?_
 refine vc_sr ?_
 refine vco_run tbOk 3 rfl ?_
 refine vco_build Tryz.underlying66 el26 rfl rfl rfl rfl rfl rfl rfl ?_
 intro gb hgb
 have hle := Heap.le_ins (whole (cellsL [.slice AC c.length cC, .slice AX x.length cX]) 26) hgb
 refine vco_call rfl rfl (kept_ok (N := N) (vs := [.slice AC c.length cC, .slice AX x.length cX]) (ls := [c, x]) (hp.le (hl1.trans hle)) (rd_ins _ _ _ _ _ _) rfl (.cons (hc.le (ratUp N) (hl1.trans hle)) (.cons (hx.le (ratUp N) (hl1.trans hle)) (lsts_nil _ _)))) ?_
 rintro _ H2 ⟨e2, b2, rfl, hb2⟩
 rw [e2]
 have h02 := hl1.trans hle
 refine vco_run tbOk 1 rfl ?_
 refine vco_k [1, 2, 3, 18] ?_
 refine vc_cond rfl (fun hb => ?_) (fun hb => ?_)
 ·
  skip
  refine vc_sr ?_
  refine vco_run tbOk 1 rfl ?_
  refine vco_k [6] ?_
  refine vc_ret ⟨.inr rfl, _, .tmp rfl (.nil), ?_⟩
  exact ⟨h02, rfl⟩
 ·
  obtain ⟨hsm, hls, hlen⟩ := hb2 (by simpa using hb)
  have hc2 := hls.head
  have hx2 := hls.tail.head
  have hc6 := hlen c (by simp)
  have hx6 := hlen x (by simp)
  refine vc_skip ?_
  refine vc_keep [1, 2, 3] rfl ?_
  refine vc_sr ?_
  refine vco_run tbOk 2 rfl ?_
  refine vco_call rfl rfl ((Value_ok hc2 hx2 (by decide) (by omega)).mono fun _ _ h => h.rc) ?_
  rintro _ H3 ⟨hl3, t3, e3, rfl, hv3⟩
  refine vco_run tbOk 3 rfl ?_
  refine vco_alloc el34 rfl ?_
  obtain ⟨ti, hti, htz⟩ := sz34; refine vco_bstore (.inl ⟨rfl, rfl⟩) rfl rfl rfl hti htz rfl rfl rfl ?_
  refine vco_run tbOk 1 rfl ?_
  refine vco_k [1, 2, 3, 7, 8] ?_
  refine vc_sr ?_
  refine vco_run tbOk 2 rfl ?_
  refine vco_call rfl rfl (rValue_ok (hc2.le (ratUp 2) hl3) (hx2.le (ratUp 2) hl3) (by omega) (by decide)) ?_
  rintro _ H4 ⟨hl4, t4, e4, rfl, hv4⟩
  refine vco_run tbOk 3 rfl ?_
  refine vco_alloc el34 rfl ?_
  obtain ⟨ti, hti, htz⟩ := sz34; refine vco_bstore (.inl ⟨rfl, rfl⟩) rfl rfl rfl hti htz rfl rfl rfl ?_
  refine vco_run tbOk 1 rfl ?_
  refine vco_k [2, 3, 7, 8, 9, 10] ?_
  obtain ⟨hee, q, hr3, hr4⟩ : e3 = e4 ∧ ∃ q, RawV H4 t3.v q 900000000000 ∧ RawV H4 t4.v q 900000000000 := by
   rcases hv3 with ⟨k1, k2, k3⟩ | ⟨k1, k2, k3⟩
   ·
    rcases hv4 with ⟨j1, j2, j3⟩ | ⟨j1, j2, j3⟩
    · exact ⟨by omega, 0, by rw [k3]; exact rawV_zero, by rw [j3]; exact rawV_zero⟩
    · exact absurd j1 k1
   ·
    rcases hv4 with ⟨j1, j2, j3⟩ | ⟨j1, j2, j3⟩
    · exact absurd k1 j1
    ·
     have hz := dot_sz9 hc2.rsize hx2.rsize k1 (by omega) (by decide)
     exact ⟨by omega, _, ((CanV.raw k3).mono hz).le hl4, (CanV.raw j3).mono hz⟩
  subst hee
  have h04 := h02.trans (hl3.trans hl4)
  have hp4 := hsm.prog.le (hl3.trans hl4)
  have hx4 := hx2.le (ratUp 2) (hl3.trans hl4)
  refine vc_sd .drawB [0, 2, 1, 3, 4, 5, 6, 7, 9, 10, 8, 11, 12, 13, 14, 15, 16, 17, 18, 19, 20, 21, 22, 23, 24, 25] follows (by kernel_rfl) ?_
  refine vco_run tbOk 2 rfl ?_
  refine vco_callM rfl rfl (Valid_ok hp4) (fun _ _ h => by rw [h.1]; exact .refl _) ?_
  rintro _ H5 ⟨e5, b5, rfl, hb5⟩
  rw [e5]
  refine vco_callM rfl rfl (rValid_ok hp4) (fun _ _ h => by rw [h.1]; exact .refl _) ?_
  rintro _ H6 ⟨e6, b6, rfl, hb6⟩
  rw [e6]
  obtain rfl := iff_bool hb5 hb6
  refine vco_eqb Tryz.underlying4 rfl rfl ?_
  rw [show (b5 == b5) = true from beq_self_eq_true b5]
  refine vco_run tbOk 5 rfl ?_
  refine vco_callM rfl rfl (Feasible_ok hp4 hx4 (by omega) (by decide)) (fun _ _ h => by first | exact h.le | exact h.1) ?_
  rintro _ H7 ⟨hl7, b7, rfl, hb7⟩
  refine vco_callM rfl rfl (rFeasible_ok (hp4.le hl7) (hx4.le (ratUp 2) hl7) (by decide)) (fun _ _ h => by first | exact h.le | exact h.1) ?_
  rintro _ H8 ⟨hl8, b8, rfl, hb8⟩
  obtain rfl := iff_bool hb7 hb8
  refine vco_eqb Tryz.underlying4 rfl rfl ?_
  rw [show (b7 == b7) = true from beq_self_eq_true b7]
  refine vco_run tbOk 4 rfl ?_
  refine vco_cmp true rfl rfl (ceq_t rfl) ?_
  refine vco_run tbOk 4 rfl ?_
  refine vco_callM rfl rfl ((rCmp_ok ((hr3.le hl7).le hl8) ((hr4.le hl7).le hl8) (by decide)).mono fun v H' h => (⟨h.1, by rw [h.2, cmpQ_self]⟩ : Heap.le H8 H' ∧ v = .int .i64 0)) (fun _ _ h => by first | exact h.le | exact h.1) ?_
  rintro _ H9 ⟨hl9, rfl⟩
  refine vco_run tbOk 3 rfl ?_
  refine vco_k [6] ?_
  refine vc_ret ⟨.inr rfl, _, .tmp rfl (.nil), ?_⟩
  exact ⟨h04.trans (hl7.trans (hl8.trans hl9)), rfl⟩
end Go.Eng
