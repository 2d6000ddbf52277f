/- SimplexTightens: the law's walk. -/
import Derived.Test.YtfkeccepnppjnaaGreatA11
import Derived.Test.YtfkeccepnppjnaaGreatCat
set_option linter.unusedVariables false
namespace Go.Eng
open Go.Proofs Num Lp
/-- A program with one more row. -/
def addR (p : Prg) (r : List Rat × Int × Rat) : Prg := ⟨p.free, p.rows ++ [r]⟩
theorem addR_meets {p : Prg} {r : List Rat × Int × Rat} {t : Rat} {x : Nat → Rat} (h : (addR p r).lp.Meets t x) : p.lp.Meets t x := by
  refine ⟨h.1, fun i hi => ?_⟩
  have hi2 : i < p.rows.length := hi
  have h1 := h.2 i (show i < (p.rows ++ [r]).length by rw [List.length_append]; omega)
  have e : (addR p r).row i = p.row i := by
    show (p.rows ++ [r]).getD i _ = p.rows.getD i _
    rw [List.getD, List.getD, List.getElem?_append_left hi2]
  have e1 : (addR p r).lp.rel i = p.lp.rel i := by show ((addR p r).row i).2.1 = (p.row i).2.1; rw [e]
  have e2 : (addR p r).lp.a i = p.lp.a i := by show fn ((addR p r).row i).1 = fn (p.row i).1; rw [e]
  have e3 : (addR p r).lp.b i = p.lp.b i := by show ((addR p r).row i).2.2 = (p.row i).2.2; rw [e]
  rw [e1, e2, e3] at h1
  exact h1
theorem tight {p : Prg} {r : List Rat × Int × Rat} {c : Nat → Rat} {s t : Int} {v w : Rat} (h : (s = 1 ∧ p.lp.IsOpt c v) ∨ (s = 2 ∧ p.lp.IsInf ∧ v = 0) ∨ (s = 3 ∧ p.lp.IsUnb c ∧ v = 0)) (k : (t = 1 ∧ (addR p r).lp.IsOpt c w) ∨ (t = 2 ∧ (addR p r).lp.IsInf ∧ w = 0) ∨ (t = 3 ∧ (addR p r).lp.IsUnb c ∧ w = 0)) :
    (s = 2 ∧ t = 2) ∨ (s = 1 ∧ t = 2) ∨ (s = 1 ∧ t = 1 ∧ v ≤ w) ∨ s = 3 := by
  rcases h with ⟨h1, h2⟩ | ⟨h1, h2, _⟩ | ⟨h1, _⟩
  · rcases k with ⟨k1, ⟨x, hx, e⟩, _⟩ | ⟨k1, _⟩ | ⟨k1, ⟨_, k2⟩, _⟩
    · exact .inr (.inr (.inl ⟨h1, k1, by rw [← e]; exact h2.2 x (addR_meets hx)⟩))
    · exact .inr (.inl ⟨h1, k1⟩)
    · obtain ⟨x, hx, hlt⟩ := k2 v
      have h3 := h2.2 x (addR_meets hx)
      exact absurd (show (addR p r).lp.n = p.lp.n from rfl) (fun _ => by
        have h4 : dotN p.lp.n c x < v := hlt
        grind)
  · rcases k with ⟨_, ⟨x, hx, _⟩, _⟩ | ⟨k1, _⟩ | ⟨_, ⟨⟨x, hx⟩, _⟩, _⟩
    · exact (h2 x (addR_meets hx)).elim
    · exact .inl ⟨h1, k1⟩
    · exact (h2 x (addR_meets hx)).elim
  · exact .inr (.inr (.inr h1))
theorem cmp_ge2 {p q : Rat} (h : q ≤ p) : 0 ≤ cmpQ p q := by unfold cmpQ; split; (exact absurd h (by grind)); split <;> decide
theorem tightens_ok {H : Heap} {v cv : Value} {cs : List Value} {p : Prg} {c : List Rat} {r : List Rat × Int × Rat} {N : Nat} (hp : ProgV N H v p) (hc : SlV (RatP N) 3 H cv c) (hr : RowP N H cs r) (hlen : p.rows.length ≤ 1048576) :
  Fn Tryz.prog 6 #[v, cv, .agg (List.toArray cs)] H (fun v H' => Heap.le H H' ∧ v = .bool true) := by
 obtain ⟨fv, rv0, rfl, hfv, hrv0⟩ := id hp
 obtain ⟨Af, cf, xf, rfl, hrF, hxF⟩ := hfv.one
 obtain ⟨Ar, cr, xr, rfl, hcr, hrR, hxR⟩ := id hrv0
 obtain ⟨Ac, cc, xc, rfl, hcc, hrc, hec⟩ := id hc
 obtain ⟨A0, c0, k0, f, A1, m1, c1, A2, m2, c2, rfl, hk0⟩ := hr.cells
 refine fn_intro (args := [_, _, _]) Tryz.func6 rfl rfl Tryz.ntmps6 rfl rfl fun w0 => ?_
 refine vc_keep [0, 1, 2] rfl ?_
 refine vc_sr ?_
 refine vco_box rfl rfl ?_
 refine vco_box rfl rfl ?_
 refine vco_run tbOk 1 rfl ?_
 refine vco_k [1, 3, 5] ?_
 refine vc_seq ?_
 refine vc_sr ?_
 refine vco_call rfl rfl (sane_ok) ?_
 rintro _ H1 ⟨hl1, rfl⟩
 refine vco_run tbOk 1 rfl ?_
 refine vco_k [1, 3, 5, 13] ?_
 refine vc_cond_f rfl ?_
 refine vc_skip ?_
 refine vc_keep [1, 3, 5] rfl ?_
 refine vc_sd .drawB [0, 1, 2, 3, 5, 4, 6, 7, 8, 9, 10] follows (by kernel_rfl) ?_
 refine vco_run tbOk 5 rfl ?_
 refine vco_app (rowUp N) (oneRow N) (by decide) Tryz.underlying23 el46 rfl rfl (gro_nil H1) (by rw [blk_nil, rem_nil]; exact hrv0.le (rowUp N) hl1) (by rw [List.length_nil]; omega) (by rw [List.length_nil]; omega) ?_
 intro v2 H2 y2 hG2 _
 rw [List.nil_append] at hG2
 refine vco_build Tryz.underlying23 el46 rfl rfl rfl rfl rfl rfl rfl ?_
 intro gd hgd
 have hG3 := hG2.ins (rowUp N) (whole (cellsL [.agg #[.slice A0 k0 c0, .int .i64 r.2.1, .bool f, .slice A1 m1 c1, .slice A2 m2 c2]]) 46) hgd
 refine vco_append Tryz.underlying23 el46 rfl rfl hG3.own (rd_ins _ _ _ _ _ _) rfl (one_row _ _ _ _ _ _ _ _ _ _ _) (by omega) (by omega) ?_
 intro v4 H4 ha4
 have hG4 := hG3.append (rowUp N) (k := [r]) (by simp) ha4 (els_one (rowUp N _ _ _ _ hG3.base (rowUp N _ _ _ _ hl1 hr)) rfl)
 obtain ⟨W, cw, rfl⟩ := hG4.form
 have hQ : ProgV N H4 (.agg #[.slice Af p.free.length cf, .slice W (p.rows ++ [r]).length cw]) (addR p r) := ⟨_, _, rfl, hfv.le boolUp (hl1.trans hG4.le), hG4.sl (rowUp N)⟩
 have hl4 := hG4.le
 have h04 := hl1.trans hl4
 refine vco_st tbOk rfl el25 rfl rfl ?_
 refine vco_alloc el25 rfl ?_
 obtain ⟨ti, hti, htz⟩ := sz25; refine vco_bstore (.inl ⟨rfl, rfl⟩) rfl rfl rfl hti htz rfl rfl rfl ?_
 refine vco_k [1, 3, 7] ?_
 refine vc_seq ?_
 refine vc_sr ?_
 refine vco_run tbOk 2 rfl ?_
 refine vco_call rfl rfl (solvable_ok (hp.le h04) (hc.le (ratUp N) h04)) ?_
 rintro _ H5 ⟨hl5, b5, rfl, hb5⟩
 cases b5
 ·
  have h05 := h04.trans hl5
  refine vco_run tbOk 7 rfl ?_
  refine vco_k [1, 3, 7, 32] ?_
  refine vc_cond_t rfl ?_
  refine vc_sr ?_
  refine vco_run tbOk 1 rfl ?_
  refine vco_k [6] ?_
  refine vc_ret ⟨.inr rfl, _, .tmp rfl (.nil), ?_⟩
  exact ⟨h05, rfl⟩
 ·
  skip
  refine vco_run tbOk 4 rfl ?_
  refine vco_call rfl rfl (solvable_ok (hQ.le hl5) ((hc.le (ratUp N) h04).le (ratUp N) hl5)) ?_
  rintro _ H6 ⟨hl6, b6, rfl, hb6⟩
  have h05 := h04.trans (hl5.trans hl6)
  refine vco_run tbOk 2 rfl ?_
  refine vco_k [1, 3, 7, 32] ?_
  refine vc_cond rfl (fun hb => ?_) (fun hb => ?_)
  ·
   skip
   refine vc_sr ?_
   refine vco_run tbOk 1 rfl ?_
   refine vco_k [6] ?_
   refine vc_ret ⟨.inr rfl, _, .tmp rfl (.nil), ?_⟩
   exact ⟨h05, rfl⟩
  ·
   have hs := hb5 rfl
   have ht := hb6 (by simpa using hb)
   refine vc_skip ?_
   refine vc_keep [1, 3, 7] rfl ?_
   refine vc_sr ?_
   refine vco_run tbOk 2 rfl ?_
   refine vco_call rfl rfl (minS_ok (hs.le hl6).few hs.ok hs.len) ?_
   rintro _ H7 ⟨hl7, S, f7, B71, m71, e71, B72, m72, e72, B7x, k7x, e7x, B7d, k7d, e7d, B7r, k7r, e7r, rfl, hchk7, hval7, hsx7, hsd7, hsr7⟩
   refine vco_run tbOk 3 rfl ?_
   refine vco_alloc el36 rfl ?_
   obtain ⟨ti, hti, htz⟩ := sz36; refine vco_bstore (.inl ⟨rfl, rfl⟩) rfl rfl rfl hti htz rfl rfl rfl ?_
   refine vco_run tbOk 1 rfl ?_
   refine vco_k [1, 7, 8, 9] ?_
   refine vc_sr ?_
   refine vco_run tbOk 2 rfl ?_
   refine vco_call rfl rfl (minS_ok (ht.le hl7).few ht.ok ht.len) ?_
   rintro _ H8 ⟨hl8, T, f8, B81, m81, e81, B82, m82, e82, B8x, k8x, e8x, B8d, k8d, e8d, B8r, k8r, e8r, rfl, hchk8, hval8, hsx8, hsd8, hsr8⟩
   refine vco_run tbOk 3 rfl ?_
   refine vco_alloc el36 rfl ?_
   obtain ⟨ti, hti, htz⟩ := sz36; refine vco_bstore (.inl ⟨rfl, rfl⟩) rfl rfl rfl hti htz rfl rfl rfl ?_
   refine vco_run tbOk 1 rfl ?_
   refine vco_k [8, 9, 10, 11] ?_
   refine vc_seq ?_
   refine vc_sr ?_
   refine vco_run tbOk 6 rfl ?_
   refine vco_k [8, 10, 50] ?_
   have hcs := tight hchk7.sem hchk8.sem
   have h08 := h05.trans (hl7.trans hl8)
   refine vc_cond_f rfl ?_
   refine vc_skip ?_
   refine vc_keep [8, 10] rfl ?_
   refine vc_seq ?_
   refine vc_sr ?_
   refine vco_run tbOk 2 rfl ?_
   refine vco_k [8, 10, 52] ?_
   refine vc_block ?_
   refine vc_sr ?_
   refine vco_run tbOk 2 rfl ?_
   refine vco_k [8, 10, 52, 53] ?_
   refine vc_cond rfl (fun hb => ?_) (fun hb => ?_)
   ·
    have h1 : S.status = 2 := by simpa using hb
    have h2 : T.status = 2 := by omega
    refine vc_sr ?_
    refine vco_run tbOk 2 rfl ?_
    refine vco_cmp true rfl rfl (ceq_t h2) ?_
    refine vco_run tbOk 1 rfl ?_
    refine vco_k [6] ?_
    refine vc_ret ⟨.inr rfl, _, .tmp rfl (.nil), ?_⟩
    exact ⟨h08, rfl⟩
   ·
    have h1 : ¬ S.status = 2 := by simpa using hb
    refine vc_sr ?_
    refine vco_run tbOk 2 rfl ?_
    refine vco_k [8, 10, 58] ?_
    refine vc_cond rfl (fun hb => ?_) (fun hb => ?_)
    ·
     have h2 : S.status = 1 := by simpa using hb
     by_cases h3 : T.status = 2
     ·
      skip
      refine vc_sr ?_
      refine vco_run tbOk 2 rfl ?_
      refine vco_cmp true rfl rfl (ceq_t h3) ?_
      refine vco_run tbOk 14 rfl ?_
      refine vco_k [6] ?_
      refine vc_ret ⟨.inr rfl, _, .tmp rfl (.nil), ?_⟩
      exact ⟨h08, rfl⟩
     ·
      have hvw : S.value ≤ T.value := by
       rcases hcs with h9 | h9 | h9 | h9
       · omega
       · omega
       · exact h9.2.2
       · omega
      refine vc_sr ?_
      refine vco_run tbOk 2 rfl ?_
      refine vco_cmp false rfl rfl (ceq_f h3) ?_
      refine vco_run tbOk 3 rfl ?_
      refine vco_cmp true rfl rfl (ceq_t (by omega)) ?_
      refine vco_run tbOk 5 rfl ?_
      refine vco_call rfl rfl (rCmp_ok (N := MX) hval8 (hval7.le hl8) (by decide)) ?_
      rintro _ H9 ⟨hl9, rfl⟩
      refine vco_cmp true rfl rfl (cge_t (cmp_ge2 hvw)) ?_
      refine vco_run tbOk 3 rfl ?_
      refine vco_k [6] ?_
      refine vc_ret ⟨.inr rfl, _, .tmp rfl (.nil), ?_⟩
      exact ⟨h08.trans hl9, rfl⟩
    ·
     have h2 : ¬ S.status = 1 := by simpa using hb
     refine vc_skip ?_
     refine vc_keep [8] rfl ?_
     refine vc_sr ?_
     refine vco_run tbOk 2 rfl ?_
     refine vco_cmp true rfl rfl (ceq_t (by omega)) ?_
     refine vco_run tbOk 1 rfl ?_
     refine vco_k [6] ?_
     refine vc_ret ⟨.inr rfl, _, .tmp rfl (.nil), ?_⟩
     exact ⟨h08, rfl⟩
end Go.Eng
