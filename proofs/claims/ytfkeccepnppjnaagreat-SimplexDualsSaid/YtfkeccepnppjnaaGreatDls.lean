/- SimplexDuals: the law's walk. -/
import Derived.Test.YtfkeccepnppjnaaGreatA11
import Derived.Test.YtfkeccepnppjnaaGreatRdual
import Derived.Test.YtfkeccepnppjnaaGreatDu
import Derived.Test.YtfkeccepnppjnaaGreatSame
set_option linter.unusedVariables false
namespace Go.Eng
open Go.Proofs Num Lp
open Classical in
/-- What Dual gives. -/
noncomputable def duE (p : Prg) (c : List Rat) : Prg × List Rat × Int := if p.Ok then (if c.length = p.free.length then (if p.rows.length ≤ 400 then (duP p c, duO p, 0) else (⟨[], []⟩, [], 9)) else (⟨[], []⟩, [], 21)) else (⟨[], []⟩, [], 1)
theorem duE_ok (p : Prg) (c : List Rat) : (duE p c).1.Ok ∧ (duE p c).2.1.length ≤ 800 := by
  have h0 : (⟨[], []⟩ : Prg).Ok := ⟨by decide, by decide, fun i r h => by simp at h⟩
  unfold duE
  split
  · split
    · split
      · rename_i h1 h2 h3
        exact ⟨du_ok h1 h3, by have := h1.rows; show (duO p).length ≤ 800; unfold duO; rw [List.length_map]; exact this⟩
      · exact ⟨h0, by decide⟩
    · exact ⟨h0, by decide⟩
  · exact ⟨h0, by decide⟩
theorem prog0 {N : Nat} {H : Heap} : ProgV N H (.agg #[.slice none 0 0, .slice none 0 0]) ⟨[], []⟩ := ⟨_, _, rfl, slV_nil, slV_nil⟩
theorem DualP.norm {p : Prg} {c : List Rat} {M : Nat} {H H' : Heap} {v : Value} (h : DualP p c M H v H') : Heap.le H H' ∧ ∃ (A1 : Option Addr) (k1 c1 : Nat) (A2 : Option Addr) (k2 c2 : Nat) (A3 : Option Addr) (k3 c3 : Nat), v = .tuple #[.agg #[.slice A1 k1 c1, .slice A2 k2 c2], .slice A3 k3 c3, .int .i64 (duE p c).2.2] ∧ ProgV M H' (.agg #[.slice A1 k1 c1, .slice A2 k2 c2]) (duE p c).1 ∧ SlV (RatP M) 3 H' (.slice A3 k3 c3) (duE p c).2.1 := by
  obtain ⟨hl, A1, k1, c1, A2, k2, c2, A3, k3, c3, e, rfl, h⟩ := h
  refine ⟨hl, A1, k1, c1, A2, k2, c2, A3, k3, c3, ?_⟩
  unfold duE
  rcases h with ⟨h1, rfl, rfl, rfl, rfl, rfl, rfl, rfl, rfl, rfl, rfl⟩ | ⟨h1, h2, rfl, rfl, rfl, rfl, rfl, rfl, rfl, rfl, rfl, rfl⟩ | ⟨h1, h2, h3, rfl, rfl, rfl, rfl, rfl, rfl, rfl, rfl, rfl, rfl⟩ | ⟨h1, h2, h3, rfl, h4, h5⟩
  · rw [if_neg h1]; exact ⟨rfl, prog0, slV_nil⟩
  · rw [if_pos h1, if_neg h2]; exact ⟨rfl, prog0, slV_nil⟩
  · rw [if_pos h1, if_pos h2, if_neg (by omega)]; exact ⟨rfl, prog0, slV_nil⟩
  · rw [if_pos h1, if_pos h2, if_pos h3]; exact ⟨rfl, h4, h5⟩
theorem duals_ok {H : Heap} {v cv : Value} {p : Prg} {c : List Rat} {N : Nat} (hp : ProgV N H v p) (hc : SlV (RatP N) 3 H cv c) :
  Fn Tryz.prog 12 #[v, cv] H (fun v H' => Heap.le H H' ∧ v = .bool true) := by
 obtain ⟨fv, rv0, rfl, hfv, hrv0⟩ := id hp
 obtain ⟨Af, cf, xf, rfl, hrF, hxF⟩ := hfv.one
 obtain ⟨Ar, cr, xr, rfl, hcr, hrR, hxR⟩ := id hrv0
 obtain ⟨Ac, cc, xc, rfl, hcc, hrc, hec⟩ := id hc
 refine fn_intro (args := [_, _]) Tryz.func12 rfl rfl Tryz.ntmps12 rfl rfl fun w0 => ?_
 refine vc_keep [0, 1] rfl ?_
 refine vc_sr ?_
 refine vco_box rfl rfl ?_
 refine vco_run tbOk 1 rfl ?_
 refine vco_k [1, 2] ?_
 refine vc_seq ?_
 refine vc_sr ?_
 refine vco_call rfl rfl (sane_ok) ?_
 rintro _ H1 ⟨hl1, rfl⟩
 refine vco_run tbOk 1 rfl ?_
 refine vco_k [1, 2, 12] ?_
 refine vc_cond_f rfl ?_
 refine vc_skip ?_
 refine vc_keep [1, 2] rfl ?_
 refine vc_seq ?_
 refine vc_sr ?_
 refine vco_run tbOk 2 rfl ?_
 refine vco_build Tryz.underlying66 el26 rfl rfl rfl rfl rfl rfl rfl ?_
 intro gb hgb
 have hle := Heap.le_ins (whole (cellsL [.slice Ac c.length cc]) 26) hgb
 have h02 := hl1.trans hle
 refine vco_call rfl rfl (kept_ok (N := N) (vs := [.slice Ac c.length cc]) (ls := [c]) (hp.le h02) (rd_ins _ _ _ _ _ _) rfl (.cons (hc.le (ratUp N) h02) (lsts_nil _ _))) ?_
 rintro _ H3 ⟨e3, b3, rfl, hb3⟩
 rw [e3]
 refine vco_run tbOk 1 rfl ?_
 refine vco_k [1, 2, 17] ?_
 refine vc_cond rfl (fun hb => ?_) (fun hb => ?_)
 ·
  skip
  refine vc_sr ?_
  refine vco_run tbOk 1 rfl ?_
  refine vco_k [4] ?_
  refine vc_ret ⟨.inr rfl, _, .tmp rfl (.nil), ?_⟩
  exact ⟨h02, rfl⟩
 ·
  obtain ⟨hsm, hls, hlen⟩ := hb3 (by simpa using hb)
  have hc2 := hls.head
  have hp2 := hsm.prog
  obtain ⟨hdo, hdl⟩ := duE_ok p c
  refine vc_skip ?_
  refine vc_keep [1, 2] rfl ?_
  refine vc_sr ?_
  refine vco_run tbOk 2 rfl ?_
  refine vco_call rfl rfl (sDual_ok (N := 2) hp2 hc2 (by decide)) ?_
  rintro _ H4 hD4
  obtain ⟨hl4, A41, k41, c41, A42, k42, c42, A43, k43, c43, rfl, hP4, hL4⟩ := hD4.norm
  refine vco_run tbOk 4 rfl ?_
  refine vco_alloc el25 rfl ?_
  obtain ⟨ti, hti, htz⟩ := sz25; refine vco_bstore (.inl ⟨rfl, rfl⟩) rfl rfl rfl hti htz rfl rfl rfl ?_
  refine vco_run tbOk 2 rfl ?_
  refine vco_k [1, 2, 5, 6, 7] ?_
  refine vc_sr ?_
  refine vco_run tbOk 2 rfl ?_
  refine vco_call rfl rfl (rDual_ok (N := 2) (hp2.le hl4) (hc2.le (ratUp 2) hl4) (by decide)) ?_
  rintro _ H5 hD5
  obtain ⟨hl5, A51, k51, c51, A52, k52, c52, A53, k53, c53, rfl, hP5, hL5⟩ := hD5.norm
  refine vco_run tbOk 4 rfl ?_
  refine vco_alloc el25 rfl ?_
  obtain ⟨ti, hti, htz⟩ := sz25; refine vco_bstore (.inl ⟨rfl, rfl⟩) rfl rfl rfl hti htz rfl rfl rfl ?_
  refine vco_run tbOk 2 rfl ?_
  refine vco_k [5, 6, 7, 8, 9, 10] ?_
  refine vc_sr ?_
  refine vco_run tbOk 2 rfl ?_
  refine vco_cmp true rfl rfl (ceq_t rfl) ?_
  refine vco_run tbOk 3 rfl ?_
  refine vco_call rfl rfl (sameProg_ok (hP4.le hl5) hP5 hdo (by decide)) ?_
  rintro _ H6 ⟨hl6, rfl⟩
  refine vco_run tbOk 4 rfl ?_
  refine vco_call rfl rfl (sameRats_ok ((hL4.le (ratUp 4) hl5).le (ratUp 4) hl6) (hL5.le (ratUp 4) hl6) (by omega) (by decide)) ?_
  rintro _ H7 ⟨hl7, rfl⟩
  refine vco_run tbOk 2 rfl ?_
  refine vco_k [4] ?_
  refine vc_ret ⟨.inr rfl, _, .tmp rfl (.nil), ?_⟩
  exact ⟨h02.trans (hl4.trans (hl5.trans (hl6.trans hl7))), rfl⟩
end Go.Eng
