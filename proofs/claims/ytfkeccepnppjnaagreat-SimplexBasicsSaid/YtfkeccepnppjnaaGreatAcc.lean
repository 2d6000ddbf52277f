/- SimplexAccepts: the law's walk. -/
import Derived.Test.YtfkeccepnppjnaaGreatA11
import Derived.Test.YtfkeccepnppjnaaGreatMns
set_option linter.unusedVariables false
namespace Go.Eng
open Go.Proofs Num Lp
theorem iff_bool {a b : Bool} {P : Prop} (h : a = true ↔ P) (k : b = true ↔ P) : a = b := by
  cases a <;> cases b <;> simp_all
theorem accepts_ok {H : Heap} {v cv xv yv rv : Value} {p : Prg} {c x y r : List Rat} {N : Nat} (hp : ProgV N H v p) (hc : SlV (RatP N) 3 H cv c) (hx : SlV (RatP N) 3 H xv x) (hy : SlV (RatP N) 3 H yv y) (hr : SlV (RatP N) 3 H rv r) :
  Fn Tryz.prog 3 #[v, cv, xv, yv, rv] H (fun v H' => Heap.le H H' ∧ v = .bool true) := by
 obtain ⟨fv, rv0, rfl, hfv, hrv0⟩ := id hp
 obtain ⟨Af, cf, xf, rfl, hrF, hxF⟩ := hfv.one
 obtain ⟨Ar, cr, xr, rfl, hcr, hrR, hxR⟩ := hrv0
 obtain ⟨AC, cC, xC, rfl, hcC, hrC, hxC⟩ := id hc
 obtain ⟨AX, cX, xX, rfl, hcX, hrX, hxX⟩ := id hx
 obtain ⟨AY, cY, xY, rfl, hcY, hrY, hxY⟩ := id hy
 obtain ⟨AR, cR, xR, rfl, hcR, hrR, hxR⟩ := id hr
 refine fn_intro (args := [_, _, _, _, _]) Tryz.func3 rfl rfl Tryz.ntmps3 rfl rfl fun w0 => ?_
 refine vc_keep [0, 1, 2, 3, 4] rfl ?_
 refine vc_sr ?_
 refine vco_box rfl rfl ?_
 refine vco_run tbOk 1 rfl ?_
 refine vco_k [1, 2, 3, 4, 5] ?_
 refine vc_seq ?_
 refine vc_sr ?_
 refine vco_call rfl rfl (sane_ok) ?_
 rintro _ H1 ⟨hl1, rfl⟩
 refine vco_run tbOk 1 rfl ?_
 refine vco_k [1, 2, 3, 4, 5, 12] ?_
 refine vc_cond_f rfl ?_
 refine vc_skip ?_
 refine vc_keep [1, 2, 3, 4, 5] rfl ?_
 refine vc_seq ?_
 refine vc_sr ?_
 refine vco_run tbOk 5 rfl ?_
 refine vco_build Tryz.underlying66 el26 rfl rfl rfl rfl rfl rfl rfl ?_
 intro gb hgb
 have hle := Heap.le_ins (whole (cellsL [.slice AC c.length cC, .slice AX x.length cX, .slice AY y.length cY, .slice AR r.length cR]) 26) hgb
 refine vco_call rfl rfl (kept_ok (N := N) (vs := [.slice AC c.length cC, .slice AX x.length cX, .slice AY y.length cY, .slice AR r.length cR]) (ls := [c, x, y, r]) (hp.le (hl1.trans hle)) (rd_ins _ _ _ _ _ _) rfl (.cons (hc.le (ratUp N) (hl1.trans hle)) (.cons (hx.le (ratUp N) (hl1.trans hle)) (.cons (hy.le (ratUp N) (hl1.trans hle)) (.cons (hr.le (ratUp N) (hl1.trans hle)) (lsts_nil _ _)))))) ?_
 rintro _ H2 ⟨e2, b2, rfl, hb2⟩
 rw [e2]
 have h02 := hl1.trans hle
 refine vco_run tbOk 1 rfl ?_
 refine vco_k [1, 2, 3, 4, 5, 20] ?_
 refine vc_cond rfl (fun hb => ?_) (fun hb => ?_)
 ·
  skip
  refine vc_sr ?_
  refine vco_run tbOk 1 rfl ?_
  refine vco_k [10] ?_
  refine vc_ret ⟨.inr rfl, _, .tmp rfl (.nil), ?_⟩
  exact ⟨h02, rfl⟩
 ·
  obtain ⟨hsm, hls, hlen⟩ := hb2 (by simpa using hb)
  have hc2 := hls.head
  have hx2 := hls.tail.head
  have hy2 := hls.tail.tail.head
  have hr2 := hls.tail.tail.tail.head
  have hx6 := hlen x (by simp)
  refine vc_skip ?_
  refine vc_keep [1, 2, 3, 4, 5] rfl ?_
  refine vc_sd .drawB [0, 1, 2, 3, 5, 6, 7, 8, 4, 9, 10, 11, 12, 13, 15, 16, 14, 17, 18, 19, 20, 21, 22, 23, 24, 26, 27, 28, 29, 25, 30, 31, 32, 33] follows (by kernel_rfl) ?_
  refine vco_run tbOk 8 rfl ?_
  refine vco_callM rfl rfl (CheckOptimal_ok hsm.prog hc2 hx2 hy2 (by omega) (by decide)) (fun _ _ h => by first | exact h.le | exact h.1) ?_
  rintro _ H3 ⟨hl3, b3, rfl, hb3⟩
  refine vco_callM rfl rfl (rCheckOptimal_ok (hsm.prog.le hl3) (hc2.le (ratUp 2) hl3) (hx2.le (ratUp 2) hl3) (hy2.le (ratUp 2) hl3) (by decide)) (fun _ _ h => by first | exact h.le | exact h.1) ?_
  rintro _ H4 ⟨hl4, b4, rfl, hb4⟩
  obtain rfl := iff_bool hb3 hb4
  refine vco_eqb Tryz.underlying4 rfl rfl ?_
  rw [show (b3 == b3) = true from beq_self_eq_true b3]
  refine vco_run tbOk 5 rfl ?_
  refine vco_callM rfl rfl (CheckInfeasible_ok ((hsm.prog.le hl3).le hl4) ((hy2.le (ratUp 2) hl3).le (ratUp 2) hl4) (by decide)) (fun _ _ h => by first | exact h.le | exact h.1) ?_
  rintro _ H5 ⟨hl5, b5, rfl, hb5⟩
  refine vco_callM rfl rfl (rCheckInfeasible_ok (((hsm.prog.le hl3).le hl4).le hl5) (((hy2.le (ratUp 2) hl3).le (ratUp 2) hl4).le (ratUp 2) hl5) (by decide)) (fun _ _ h => by first | exact h.le | exact h.1) ?_
  rintro _ H6 ⟨hl6, b6, rfl, hb6⟩
  obtain rfl := iff_bool hb5 hb6
  refine vco_eqb Tryz.underlying4 rfl rfl ?_
  rw [show (b5 == b5) = true from beq_self_eq_true b5]
  refine vco_run tbOk 10 rfl ?_
  refine vco_callM rfl rfl (CheckUnbounded_ok ((((hsm.prog.le hl3).le hl4).le hl5).le hl6) ((((hc2.le (ratUp 2) hl3).le (ratUp 2) hl4).le (ratUp 2) hl5).le (ratUp 2) hl6) ((((hx2.le (ratUp 2) hl3).le (ratUp 2) hl4).le (ratUp 2) hl5).le (ratUp 2) hl6) ((((hr2.le (ratUp 2) hl3).le (ratUp 2) hl4).le (ratUp 2) hl5).le (ratUp 2) hl6) (by omega) (by decide)) (fun _ _ h => by first | exact h.le | exact h.1) ?_
  rintro _ H7 ⟨hl7, b7, rfl, hb7⟩
  refine vco_callM rfl rfl (rCheckUnbounded_ok (((((hsm.prog.le hl3).le hl4).le hl5).le hl6).le hl7) (((((hc2.le (ratUp 2) hl3).le (ratUp 2) hl4).le (ratUp 2) hl5).le (ratUp 2) hl6).le (ratUp 2) hl7) (((((hx2.le (ratUp 2) hl3).le (ratUp 2) hl4).le (ratUp 2) hl5).le (ratUp 2) hl6).le (ratUp 2) hl7) (((((hr2.le (ratUp 2) hl3).le (ratUp 2) hl4).le (ratUp 2) hl5).le (ratUp 2) hl6).le (ratUp 2) hl7) (by decide)) (fun _ _ h => by first | exact h.le | exact h.1) ?_
  rintro _ H8 ⟨hl8, b8, rfl, hb8⟩
  obtain rfl := iff_bool hb7 hb8
  refine vco_eqb Tryz.underlying4 rfl rfl ?_
  rw [show (b7 == b7) = true from beq_self_eq_true b7]
  refine vco_run tbOk 2 rfl ?_
  refine vco_k [10] ?_
  refine vc_ret ⟨.inr rfl, _, .tmp rfl (.nil), ?_⟩
  exact ⟨h02.trans (hl3.trans (hl4.trans (hl5.trans (hl6.trans (hl7.trans hl8))))), rfl⟩
end Go.Eng
