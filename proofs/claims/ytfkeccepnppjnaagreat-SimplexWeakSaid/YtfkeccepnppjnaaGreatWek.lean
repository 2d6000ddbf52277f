/- SimplexWeak: the law's walk. -/
import Derived.Test.YtfkeccepnppjnaaGreatA11
import Derived.Test.YtfkeccepnppjnaaGreatDul
import Derived.Test.YtfkeccepnppjnaaGreatChk2
set_option linter.unusedVariables false
namespace Go.Eng
open Go.Proofs Num Lp
theorem weak_ok {H : Heap} {v cv xv yv : Value} {p : Prg} {c x y : List Rat} {N : Nat} (hp : ProgV N H v p) (hc : SlV (RatP N) 3 H cv c) (hx : SlV (RatP N) 3 H xv x) (hy : SlV (RatP N) 3 H yv y) :
  Fn Tryz.prog 14 #[v, cv, xv, yv] H (fun v H' => Heap.le H H' ∧ v = .bool true) := by
 obtain ⟨fv, rv0, rfl, hfv, hrv0⟩ := id hp
 obtain ⟨Af, cf, xf, rfl, hrF, hxF⟩ := hfv.one
 obtain ⟨Ar, cr, xr, rfl, hrR, hxR⟩ := hrv0.row
 obtain ⟨AC, cC, xC, rfl, hcC, hrC, hxC⟩ := id hc
 obtain ⟨AX, cX, xX, rfl, hcX, hrX, hxX⟩ := id hx
 obtain ⟨AY, cY, xY, rfl, hcY, hrY, hxY⟩ := id hy
 refine fn_intro (args := [_, _, _, _]) Tryz.func14 rfl rfl Tryz.ntmps14 rfl rfl fun w0 => ?_
 refine vc_keep [0, 1, 2, 3] rfl ?_
 refine vc_sr ?_
 refine vco_box rfl rfl ?_
 refine vco_run tbOk 1 rfl ?_
 refine vco_k [1, 2, 3, 4] ?_
 refine vc_seq ?_
 refine vc_sr ?_
 refine vco_call rfl rfl (sane_ok) ?_
 rintro _ H1 ⟨hl1, rfl⟩
 refine vco_run tbOk 1 rfl ?_
 refine vco_k [1, 2, 3, 4, 17] ?_
 refine vc_cond_f rfl ?_
 refine vc_skip ?_
 refine vc_keep [1, 2, 3, 4] rfl ?_
 refine vc_seq ?_
 refine vc_sr ?_
 refine vco_run tbOk 2 rfl ?_
 refine vco_call rfl rfl (solvable_ok (hp.le hl1) (hc.le (ratUp N) hl1)) ?_
 rintro _ H2 ⟨hl2, b2, rfl, hb2⟩
 have h02 := hl1.trans hl2
 cases b2
 ·
  skip
  refine vco_run tbOk 9 rfl ?_
  refine vco_k [1, 2, 3, 4, 29] ?_
  refine vc_cond_t rfl ?_
  refine vc_sr ?_
  refine vco_run tbOk 1 rfl ?_
  refine vco_k [8] ?_
  refine vc_ret ⟨.inr rfl, _, .tmp rfl (.nil), ?_⟩
  exact ⟨h02, rfl⟩
 ·
  skip
  refine vco_run tbOk 5 rfl ?_
  refine vco_build Tryz.underlying66 el26 rfl rfl rfl rfl rfl rfl rfl ?_
  intro gb hgb
  have hle := Heap.le_ins (whole (cellsL [.slice AX x.length cX, .slice AY y.length cY]) 26) hgb
  refine vco_call rfl rfl (kept_ok (N := N) (vs := [.slice AX x.length cX, .slice AY y.length cY]) (ls := [x, y]) (hp.le (h02.trans hle)) (rd_ins _ _ _ _ _ _) rfl (.cons (hx.le (ratUp N) (h02.trans hle)) (.cons (hy.le (ratUp N) (h02.trans hle)) (lsts_nil _ _)))) ?_
  rintro _ H3 ⟨e3, b3, rfl, hb3⟩
  rw [e3]
  refine vco_run tbOk 2 rfl ?_
  refine vco_k [1, 2, 3, 4, 29] ?_
  refine vc_cond rfl (fun hb => ?_) (fun hb => ?_)
  ·
   skip
   refine vc_sr ?_
   refine vco_run tbOk 1 rfl ?_
   refine vco_k [8] ?_
   refine vc_ret ⟨.inr rfl, _, .tmp rfl (.nil), ?_⟩
   exact ⟨h02.trans hle, rfl⟩
  ·
   have hs := (hb2 rfl).le hle
   obtain ⟨_, hls, hlen⟩ := hb3 (by simpa using hb)
   have hx2 := hls.head
   have hy2 := hls.tail.head
   have hx6 := hlen x (by simp)
   have hy6 := hlen y (by simp)
   have hm6 := hs.sml.rows
   have hn5 := hs.sml.cols
   have hcl := hs.len
   have h03 := h02.trans hle
   refine vc_skip ?_
   refine vc_keep [1, 2, 3, 4] rfl ?_
   refine vc_sr ?_
   refine vco_run tbOk 2 rfl ?_
   refine vco_call rfl rfl (sDual_yes hs) ?_
   rintro _ H4 ⟨hl4, D1, a1, d1, D2, a2, d2, D3, a3, d3, rfl, hdp, hdo⟩
   refine vco_run tbOk 4 rfl ?_
   refine vco_alloc el25 rfl ?_
   obtain ⟨ti, hti, htz⟩ := sz25; refine vco_bstore (.inl ⟨rfl, rfl⟩) rfl rfl rfl hti htz rfl rfl rfl ?_
   refine vco_run tbOk 2 rfl ?_
   refine vco_k [1, 2, 3, 4, 9, 10, 11] ?_
   refine vc_seq ?_
   refine vc_sr ?_
   refine vco_run tbOk 2 rfl ?_
   refine vco_k [1, 2, 3, 4, 9, 10, 38] ?_
   refine vc_cond_f rfl ?_
   refine vc_skip ?_
   refine vc_keep [1, 2, 3, 4, 9, 10] rfl ?_
   refine vc_seq ?_
   refine vc_sr ?_
   refine vco_run tbOk 2 rfl ?_
   refine vco_call rfl rfl (Feasible_ok (hs.sml.prog.le hl4) (hx2.le (ratUp 2) hl4) (by omega) (by decide)) ?_
   rintro _ H5 ⟨hl5, b5, rfl, hb5⟩
   have h05 := h03.trans (hl4.trans hl5)
   cases b5
   ·
    skip
    refine vco_run tbOk 7 rfl ?_
    refine vco_k [1, 2, 3, 10, 48] ?_
    refine vc_cond_t rfl ?_
    refine vc_sr ?_
    refine vco_run tbOk 1 rfl ?_
    refine vco_k [8] ?_
    refine vc_ret ⟨.inr rfl, _, .tmp rfl (.nil), ?_⟩
    exact ⟨h05, rfl⟩
   ·
    skip
    refine vco_run tbOk 4 rfl ?_
    refine vco_call rfl rfl (Feasible_ok (hdp.le hl5) (((hy2.le (ratUp 2) hl4).le (ratUp 2) hl5).mono fun _ _ h => h.mono (by decide)) (by omega) (by decide)) ?_
    rintro _ H6 ⟨hl6, b6, rfl, hb6⟩
    have h06 := h05.trans hl6
    refine vco_run tbOk 2 rfl ?_
    refine vco_k [1, 2, 3, 10, 48] ?_
    refine vc_cond rfl (fun hb => ?_) (fun hb => ?_)
    ·
     skip
     refine vc_sr ?_
     refine vco_run tbOk 1 rfl ?_
     refine vco_k [8] ?_
     refine vc_ret ⟨.inr rfl, _, .tmp rfl (.nil), ?_⟩
     exact ⟨h06, rfl⟩
    ·
     have hf1 := hb5.1 rfl
     have hf2 := hb6.1 (by simpa using hb)
     have hxl := hf1.len
     have hyl := hf2.len
     rw [duF_len] at hyl
     have hol := duO_len (p := p)
     have h46 := hl4.trans (hl5.trans hl6)
     have h4 := hl5.trans hl6
     have hyr := ((hy2.le (ratUp 2) h46).mono fun _ _ h => h.mono (M := 4) (by decide))
     have hcr := hs.vec.le (ratUp 2) h46
     have hxr := hx2.le (ratUp 2) h46
     have hor := hdo.le (ratUp 4) h4
     have hwk := du_weak hs.ok hf1.meets hf2.meets
     have hz1 := dot_sz9 hcr.rsize hxr.rsize (by omega) (by omega) (by decide)
     have hz2 := dot_sz9 hor.rsize hyr.rsize (by omega) (by omega) (by decide)
     refine vc_skip ?_
     refine vc_keep [1, 2, 3, 10] rfl ?_
     refine vc_sr ?_
     refine vco_run tbOk 2 rfl ?_
     refine vco_call rfl rfl ((Value_ok hcr hxr (by decide) (by omega)).mono fun _ _ h => h.rc9 (by omega)) ?_
     rintro _ H7 ⟨hl7, t7, rfl, hq7⟩
     refine vco_run tbOk 3 rfl ?_
     refine vco_alloc el34 rfl ?_
     obtain ⟨ti, hti, htz⟩ := sz34; refine vco_bstore (.inl ⟨rfl, rfl⟩) rfl rfl rfl hti htz rfl rfl rfl ?_
     refine vco_run tbOk 1 rfl ?_
     refine vco_k [3, 10, 12, 13] ?_
     refine vc_sr ?_
     refine vco_run tbOk 2 rfl ?_
     refine vco_call rfl rfl ((Value_ok (hor.le (ratUp 4) hl7) (hyr.le (ratUp 4) hl7) (by decide) (by omega)).mono fun _ _ h => h.rc9 (by omega)) ?_
     rintro _ H8 ⟨hl8, t8, rfl, hq8⟩
     refine vco_run tbOk 3 rfl ?_
     refine vco_alloc el34 rfl ?_
     obtain ⟨ti, hti, htz⟩ := sz34; refine vco_bstore (.inl ⟨rfl, rfl⟩) rfl rfl rfl hti htz rfl rfl rfl ?_
     refine vco_run tbOk 1 rfl ?_
     refine vco_k [12, 13, 14, 15] ?_
     refine vc_sr ?_
     refine vco_run tbOk 9 rfl ?_
     refine vco_call rfl rfl ((rAdd_ok (N := 900000000000) (((CanV.raw hq7).mono hz1).le hl8) ((CanV.raw hq8).mono hz2) (by decide)).rc) ?_
     rintro _ H9 ⟨hl9, t9, rfl, hq9⟩
     have hz3 := szQ_add (dotN c.length (fn c) (fn x)) (dotN (duO p).length (fn (duO p)) (fn y))
     refine vco_call rfl rfl (rSign_ok (N := 2000000000000) ((CanV.raw hq9).mono (by omega)) (by decide)) ?_
     rintro _ H10 ⟨hl10, rfl⟩
     refine vco_cmp true rfl rfl (cge_t (sgn_ge.2 (by rw [hcl, hol]; have h9 := hwk; rw [du_n] at h9; exact h9))) ?_
     refine vco_run tbOk 2 rfl ?_
     refine vco_k [8] ?_
     refine vc_ret ⟨.inr rfl, _, .tmp rfl (.nil), ?_⟩
     exact ⟨h06.trans (hl7.trans (hl8.trans (hl9.trans hl10))), rfl⟩
end Go.Eng
