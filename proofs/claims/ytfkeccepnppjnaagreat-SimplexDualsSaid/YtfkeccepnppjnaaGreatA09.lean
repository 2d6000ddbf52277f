/- Part 9 of the proof: Tab10. -/
import Derived.Test.YtfkeccepnppjnaaGreatA08
set_option linter.unusedVariables false
/- Walks over package simplex, tableau.go, part 10: newTableau. -/
namespace Go.Eng
open Go.Proofs Num Lp
theorem slk_ent {xs : List Value} {v : Value} {s e i : Nat} : ({ (⟨xs, s, e, true⟩ : Ent) with xs := splice xs (0 + ((i : Int)).toNat * 1) [v] } : Ent) = ⟨xs.set i v, s, e, true⟩ := by
  rw [Int.toNat_natCast, Nat.mul_one, Nat.zero_add]; rfl
theorem ints_zero {h : Nat → Int} {m : Nat} : ints (fun j => if j < 0 then h j else 0) m = List.replicate m (.int .i64 0) := by
  rw [ints_congr (g := fun _ => 0) (fun j _ => by rw [if_neg (by omega)])]
  apply List.ext_getElem?
  intro j
  by_cases hj : j < m
  · rw [ints_get hj, List.getElem?_replicate, if_pos hj]
  · rw [List.getElem?_eq_none (by rw [ints_len]; omega), List.getElem?_eq_none (by rw [List.length_replicate]; omega)]
theorem slc_no {rel : Nat → Int} {c i : Nat} (h : ¬ rel i = 2) : slc rel c (i + 1) = slc rel c i + 1 := by
  show slc rel c i + (if rel i = 2 then 0 else 1) = _; rw [if_neg h]
theorem slc_eq {rel : Nat → Int} {c i : Nat} (h : rel i = 2) : slc rel c (i + 1) = slc rel c i := by
  show slc rel c i + (if rel i = 2 then 0 else 1) = _; rw [if_pos h]; rfl
theorem slk_set {rel : Nat → Int} {c i m : Nat} (h : ¬ rel i = 2) : ints (fun j => if j < i + 1 then slz rel c j else 0) m = (ints (fun j => if j = i then -1 else if j < i then slz rel c j else 0) m).set i (.int .i64 ((slc rel c i : Nat) : Int)) := by
  rw [ints_set]
  refine ints_congr fun j _ => ?_
  by_cases e : j = i
  · subst e
    rw [if_pos (by omega), if_pos rfl]; unfold slz; rw [if_neg h]
  · rw [if_neg e, if_neg e]
    by_cases e2 : j < i
    · rw [if_pos (by omega), if_pos e2]
    · rw [if_neg (by omega), if_neg e2]
theorem slk_eq {rel : Nat → Int} {c i m : Nat} (h : rel i = 2) : ints (fun j => if j = i then -1 else if j < i then slz rel c j else 0) m = ints (fun j => if j < i + 1 then slz rel c j else 0) m := by
  refine ints_congr fun j _ => ?_
  by_cases e : j = i
  · subst e
    rw [if_pos (show j < j + 1 by omega), if_pos rfl]; unfold slz; rw [if_pos h]
  · rw [if_neg e]
    by_cases e2 : j < i
    · rw [if_pos (show j < i + 1 by omega), if_pos e2]
    · rw [if_neg (show ¬ j < i + 1 by omega), if_neg e2]
theorem sign_cell {ys : List Value} {sg : Nat → Int} {m i : Nat} (h : ∀ K : Heap, Els (NumV K) 3 ys (vals (fun j => (sg j : Rat)) m)) (hi : i < m) : ys[i * 3]? = some (.int .i64 (sg i)) := by
  obtain ⟨vs, _, hn, hx⟩ := (h (fun _ => none)).get (vals_get hi)
  obtain ⟨n, d, b, rfl, hb⟩ := hn
  rcases hb with ⟨_, e, _⟩ | ⟨ad, f, u, w, _, _, hc, _⟩
  · have h1 := hx 0 _ rfl
    rw [Nat.add_zero, e] at h1
    rw [h1]
    simp
  · simp [cell] at hc
theorem unc_own {rel sg : Nat → Int} {u i : Nat} (h : ownB (rel i) (sg i) = true) : unc rel sg u (i + 1) = unc rel sg u i := by
  show unc rel sg u i + (if ownB (rel i) (sg i) then 0 else 1) = _; rw [if_pos h]; rfl
theorem unc_new {rel sg : Nat → Int} {u i : Nat} (h : ownB (rel i) (sg i) = false) : unc rel sg u (i + 1) = unc rel sg u i + 1 := by
  show unc rel sg u i + (if ownB (rel i) (sg i) then 0 else 1) = _; rw [h]; rfl
theorem unt_own {rel sg : Nat → Int} {c u i : Nat} (h : ownB (rel i) (sg i) = true) : slz rel c i = ((unt rel sg c u i : Nat) : Int) := by
  unfold unt slz
  rw [if_pos h, if_neg]
  intro e
  unfold ownB at h
  rw [decide_eq_true_eq] at h
  omega
theorem unt_new {rel sg : Nat → Int} {c u i : Nat} (h : ownB (rel i) (sg i) = false) : unt rel sg c u i = unc rel sg u i := by
  unfold unt; rw [h]; rfl
theorem newTableau_ok {H : Heap} {v : Value} {p : Prg} {N n m : Nat} (hp : ProgV N H v p) (hok : p.Ok) (hn : n = p.free.length) (hm : m = p.rows.length) (hN : (N : Int) ≤ 549755813888) :
  Fn Tryz.prog 64 #[v] H (fun v H' => ∃ G : TG, v = .pointer (some ⟨G.g, 0, none⟩) ∧ TabV H' G p.lay p.tab0 ∧ G.cb = [] ∧ Heap.le H (rem H' G.gs)) := by
 obtain ⟨fv, rv0, rfl, hfv, hrv0⟩ := hp
 obtain ⟨Af, cf, xf, rfl, hrF, hxF⟩ := hfv.one
 obtain ⟨Ar, cr, xr, rfl, hrR, hxR⟩ := hrv0.row
 rw [← hn, ← hm]
 have hn4 := hok.cols
 have hm8 := hok.rows
 rw [← hn] at hn4
 rw [← hm] at hm8
 refine fn_intro (args := [_]) Tryz.func64 rfl rfl Tryz.ntmps64 rfl rfl fun w0 => ?_
 refine vc_keep [0] rfl ?_
 refine vc_sr ?_
 refine vco_box rfl rfl ?_
 refine vco_run tbOk 1 rfl ?_
 refine vco_k [1] ?_
 refine vc_sr ?_
 refine vco_st tbOk rfl el96 rfl rfl ?_
 refine vco_hbox rfl rfl ?_
 intro g hg0
 refine vco_halloc el86 rfl ?_
 intro gv hgv0
 obtain ⟨ti, hti, htz⟩ := sz86; refine vco_hst (g := gv) (o := 0) (.inl rfl) rfl (ins_same _ _ _) rfl (by show 0 + 1 ≤ 1; omega) hti htz rfl rfl rfl rfl ?_
 have hgv : gv ≠ g := (none_ins hgv0).1
 have hgv1 := (none_ins hgv0).2
 rw [ins_ins]
 have hg1 : ins (ins H g (whole [.int .i64 0, .int .i64 0, .slice none 0 0, .slice none 0 0, .slice none 0 0, .slice none 0 0, .slice none 0 0, .slice none 0 0, .slice none 0 0] 96)) gv (whole [.pointer (some ⟨g, 0, none⟩)] 86) g = some ⟨[.int .i64 ((0 : Nat) : Int), .int .i64 0, .slice none 0 0, .slice none 0 0, .slice none 0 0, .slice none 0 0, .slice none 0 0, .slice none 0 0, .slice none 0 0], 9, 96, true⟩ := by rw [ins_other _ _ (Ne.symm hgv), ins_same]; rfl
 have hv1 : cell (rem (ins (ins H g (whole [.int .i64 0, .int .i64 0, .slice none 0 0, .slice none 0 0, .slice none 0 0, .slice none 0 0, .slice none 0 0, .slice none 0 0, .slice none 0 0] 96)) gv (whole [.pointer (some ⟨g, 0, none⟩)] 86)) [g]) ⟨gv, 0, none⟩ = some (.pointer (some ⟨g, 0, none⟩)) := by
  rw [rem_ins_out _ (fun h => hgv (List.mem_singleton.1 h)), rem_ins_new _ hg0, rem_nil]; exact cell_whole0
 have hle1 : Heap.le H (rem (ins (ins H g (whole [.int .i64 0, .int .i64 0, .slice none 0 0, .slice none 0 0, .slice none 0 0, .slice none 0 0, .slice none 0 0, .slice none 0 0, .slice none 0 0] 96)) gv (whole [.pointer (some ⟨g, 0, none⟩)] 86)) [g]) := by
  rw [rem_ins_out _ (fun h => hgv (List.mem_singleton.1 h)), rem_ins_new _ hg0, rem_nil]; exact Heap.le_ins _ hgv1
 generalize hH1 : ins (ins H g (whole [.int .i64 0, .int .i64 0, .slice none 0 0, .slice none 0 0, .slice none 0 0, .slice none 0 0, .slice none 0 0, .slice none 0 0, .slice none 0 0] 96)) gv (whole [.pointer (some ⟨g, 0, none⟩)] 86) = H1 at hg1 hv1 hle1
 rw [show (ins (ins H g (whole [.int .i64 0, .int .i64 0, .slice none 0 0, .slice none 0 0, .slice none 0 0, .slice none 0 0, .slice none 0 0, .slice none 0 0, .slice none 0 0] 96)) gv { (whole [.pointer none] 86) with xs := splice (whole [.pointer none] 86).xs 0 [.pointer (some ⟨g, 0, none⟩)] }) = H1 from hH1]
 refine vco_k [1, 3] ?_
 refine vc_sr ?_
 refine vco_mkfunc (cap := [.pointer (some ⟨gv, 0, none⟩)]) rfl ?_
 refine vco_run tbOk 1 rfl ?_
 refine vco_k [1, 3, 4] ?_
 refine vc_seq ?_
 refine vc_sr ?_
 refine vco_run tbOk 4 rfl ?_
 refine vco_k [1, 3, 4, 19, 20, 21] ?_
 refine vc_block ?_
 refine vc_loop3 (fun (k : Nat) (pv : Value) (mv : Value) => n - k) (fun (k : Nat) (pv : Value) (mv : Value) => put (put (put (put (put (put (emp) 1 (.box [.slice Af n cf, .slice Ar m cr])) 3 (.val (.pointer (some ⟨gv, 0, none⟩)))) 4 (.val (.func (.func 102) #[] #[.pointer (some ⟨gv, 0, none⟩)]))) 19 (.val (.slice Af n cf))) 20 (.val (.int .i64 (n : Int)))) 21 (.val (.int .i64 (k : Int)))) (fun (k : Nat) (pv : Value) (mv : Value) H' => cell (rem H' [g]) ⟨gv, 0, none⟩ = some (.pointer (some ⟨g, 0, none⟩)) ∧ H' g = some ⟨[.int .i64 ((colc p.lp.free k : Nat) : Int), .int .i64 0, pv, mv, .slice none 0 0, .slice none 0 0, .slice none 0 0, .slice none 0 0, .slice none 0 0], 9, 96, true⟩ ∧ Heap.le H (rem H' [g]) ∧ Own (rem H' [g]) pv 3 1 k (ints (fun j => (colc p.lp.free j : Int)) k) ∧ Own (rem H' [g]) mv 3 1 k (ints (mnz p.lp.free) k) ∧ Apart pv mv ∧ k ≤ n) 0 (.slice none 0 0) (.slice none 0 0) (⟨hv1, hg1, hle1, own_nil _ _ _, own_nil _ _ _, (fun q h => by cases h), Nat.zero_le _⟩) sub_auto ?_
 rintro k pv mv H2 ⟨hv2, hg2, hle2, hpv2, hmv2, hap2, hk2⟩
 obtain ⟨Ap, cp, rfl⟩ := hpv2.form
 obtain ⟨Am, cm, rfl⟩ := hmv2.form
 have hcl := colc_le p.lp.free k
 have hne2 : ∀ q, q ∈ [g] → H2 q ≠ none := fun q hq => by rw [List.mem_singleton.1 hq, hg2]; simp
 refine vc_sr ?_
 refine vco_run tbOk 1 rfl ?_
 refine vco_k [1, 3, 4, 19, 20, 21, 22] ?_
 refine vc_seq ?_
 refine vc_cond rfl (fun hb => ?_) (fun hb => ?_)
 ·
  have hkn : k < n := by simpa using hb
  obtain ⟨fb, hfb⟩ : ∃ fb, p.free[k]? = some fb := ⟨_, List.getElem?_eq_getElem (by omega)⟩
  obtain ⟨uf, huf, hufe⟩ := hxF k fb hfb
  cases hufe
  have hfr : p.lp.free k = fb := Prg.free_get hfb
  have hcs : colc p.lp.free (k + 1) = colc p.lp.free k + 1 + (if p.lp.free k then 1 else 0) := rfl
  refine vc_skip ?_
  refine vc_keep [1, 3, 4, 19, 20, 21] rfl ?_
  refine vc_seq ?_
  refine vc_block ?_
  refine vc_sr ?_
  refine vco_at tbOk rfl rfl rfl rfl rfl ((hrF.le hle2).le (rem_le _ _)) (by rw [Int.toNat_natCast]; exact huf) (by omega) (by omega) fun _ => ?_
  refine vco_run tbOk 1 rfl ?_
  refine vco_k [1, 3, 4, 6, 19, 20, 21] ?_
  refine vc_sd (.drawK (kc2 ⟨gv, 0, none⟩ (.pointer (some ⟨g, 0, none⟩)) ⟨g, 2, none⟩ (.slice Ap k cp))) [0, 1, 2, 3, 4, 5, 6, 7, 8, 9, 10, 11] follows (by kernel_rfl) ?_
  have hcv6 : cell H2 ⟨gv, 0, none⟩ = some (.pointer (some ⟨g, 0, none⟩)) := cell_le (rem_le _ _) hv2
  have hcF6 : cell H2 ⟨g, 2, none⟩ = some (.slice Ap k cp) := by simp [cell, hg2]
  have hcov6 := kc2_cov hcv6 hcF6
  refine vck_load hcov6 tbOk rfl rfl rfl kc2_a ?_
  refine vck_load hcov6 tbOk rfl rfl rfl kc2_a ?_
  refine vck_nil hcov6 rfl ?_
  refine vck_fld hcov6 tbOk rfl rfl rfl ?_
  refine vck_load hcov6 tbOk rfl rfl rfl (kc2_b (addr_ne (Ne.symm hgv))) ?_
  refine vck_move hcov6 rfl ?_
  refine vck_callC (cap := [.pointer (some ⟨gv, 0, none⟩)]) (args := []) rfl rfl (column_ok (w := colc p.lp.free k) hcv6 hg2 hgv (by omega)) (fun v H' hp => by obtain ⟨_, rfl⟩ := hp; exact kc2_cov (hcv_ins hcv6 hgv) (by simp [cell, ins])) ?_
  rintro _ _ ⟨rfl, rfl⟩
  refine vck_build1 Tryz.underlying93 el3 rfl rfl ?_
  intro gb6 hgb6
  have hne6 : ∀ q, q ∈ [g] → ins H2 g ⟨[.int .i64 ((colc p.lp.free k + 1 : Nat) : Int), .int .i64 0, .slice Ap k cp, .slice Am k cm, .slice none 0 0, .slice none 0 0, .slice none 0 0, .slice none 0 0, .slice none 0 0], 9, 96, true⟩ q ≠ none := fun q hq => by
   by_cases e : q = g
   · rw [e, ins_same]; simp
   · rw [ins_other _ _ e]; exact hne2 q hq
  have own6 : Own (rem (ins H2 g ⟨[.int .i64 ((colc p.lp.free k + 1 : Nat) : Int), .int .i64 0, .slice Ap k cp, .slice Am k cm, .slice none 0 0, .slice none 0 0, .slice none 0 0, .slice none 0 0, .slice none 0 0], 9, 96, true⟩) [g]) (.slice Ap k cp) 3 1 k (ints (fun j => (colc p.lp.free j : Int)) k) := by rw [rem_ins_in _ (List.mem_singleton.2 rfl)]; exact hpv2
  have hcovb6 := kc2_cov (cell_le (Heap.le_ins (whole [.int .i64 ((colc p.lp.free k : Nat) : Int)] 3) hgb6) (hcv_ins (e := ⟨[.int .i64 ((colc p.lp.free k + 1 : Nat) : Int), .int .i64 0, .slice Ap k cp, .slice Am k cm, .slice none 0 0, .slice none 0 0, .slice none 0 0, .slice none 0 0, .slice none 0 0], 9, 96, true⟩) hcv6 hgv)) (cell_le (Heap.le_ins (whole [.int .i64 ((colc p.lp.free k : Nat) : Int)] 3) hgb6) (show cell (ins H2 g ⟨[.int .i64 ((colc p.lp.free k + 1 : Nat) : Int), .int .i64 0, .slice Ap k cp, .slice Am k cm, .slice none 0 0, .slice none 0 0, .slice none 0 0, .slice none 0 0, .slice none 0 0], 9, 96, true⟩) ⟨g, 2, none⟩ = some (.slice Ap k cp) by simp [cell, ins]))
  refine vck_append Tryz.underlying93 el3 rfl rfl (own6.lift.1.ins _ hgb6) (rd_ins _ _ _ _ _ _) rfl (one_int _) (by omega) (by omega) hcovb6 ?_
  intro v6 H6b ha6
  obtain ⟨A6, c6, rfl⟩ := ha6.own.form
  have hgr6 := grew (gs := [g]) hne6 hgb6 own6 ha6
  have hg6b : H6b g = some ⟨[.int .i64 ((colc p.lp.free k + 1 : Nat) : Int), .int .i64 0, .slice Ap k cp, .slice Am k cm, .slice none 0 0, .slice none 0 0, .slice none 0 0, .slice none 0 0, .slice none 0 0], 9, 96, true⟩ := by rw [hgr6.2 g (List.mem_singleton.2 rfl), ins_same]
  have hcov6d := kc2_cov (show cell H6b ⟨gv, 0, none⟩ = some (.pointer (some ⟨g, 0, none⟩)) from cell_le (rem_le _ [g]) (cell_le hgr6.1.le (by rw [rem_ins_in _ (List.mem_singleton.2 rfl)]; exact hv2))) (show cell H6b ⟨g, 2, none⟩ = some (.slice Ap k cp) by simp [cell, hg6b])
  refine vck_nil hcov6d rfl ?_
  refine vck_fld hcov6d tbOk rfl rfl rfl ?_
  obtain ⟨ti6, hti6, htz6⟩ := sz93
  refine vck_hst (g := g) (o := 2) rfl hg6b rfl (by show 2 + 1 ≤ 9; omega) hti6 htz6 rfl rfl rfl rfl ?_
  have hg6 : ins H6b g { (⟨[.int .i64 ((colc p.lp.free k + 1 : Nat) : Int), .int .i64 0, .slice Ap k cp, .slice Am k cm, .slice none 0 0, .slice none 0 0, .slice none 0 0, .slice none 0 0, .slice none 0 0], 9, 96, true⟩ : Ent) with xs := splice [.int .i64 ((colc p.lp.free k + 1 : Nat) : Int), .int .i64 0, .slice Ap k cp, .slice Am k cm, .slice none 0 0, .slice none 0 0, .slice none 0 0, .slice none 0 0, .slice none 0 0] 2 [.slice A6 (k + 1) c6] } g = some ⟨[.int .i64 ((colc p.lp.free k + 1 : Nat) : Int), .int .i64 0, .slice A6 (k + 1) c6, .slice Am k cm, .slice none 0 0, .slice none 0 0, .slice none 0 0, .slice none 0 0, .slice none 0 0], 9, 96, true⟩ := by rw [ins_same]; rfl
  have hG6 : Grew (rem H2 [g]) (.slice Ap k cp) 3 1 (k + 1) (ints (fun j => (colc p.lp.free j : Int)) k ++ [.int .i64 ((colc p.lp.free k : Nat) : Int)]) (.slice A6 (k + 1) c6) (rem (ins H6b g { (⟨[.int .i64 ((colc p.lp.free k + 1 : Nat) : Int), .int .i64 0, .slice Ap k cp, .slice Am k cm, .slice none 0 0, .slice none 0 0, .slice none 0 0, .slice none 0 0, .slice none 0 0], 9, 96, true⟩ : Ent) with xs := splice [.int .i64 ((colc p.lp.free k + 1 : Nat) : Int), .int .i64 0, .slice Ap k cp, .slice Am k cm, .slice none 0 0, .slice none 0 0, .slice none 0 0, .slice none 0 0, .slice none 0 0] 2 [.slice A6 (k + 1) c6] }) [g]) := by rw [rem_ins_in _ (List.mem_singleton.2 rfl), ← rem_ins_in (H := H2) ⟨[.int .i64 ((colc p.lp.free k + 1 : Nat) : Int), .int .i64 0, .slice Ap k cp, .slice Am k cm, .slice none 0 0, .slice none 0 0, .slice none 0 0, .slice none 0 0, .slice none 0 0], 9, 96, true⟩ (List.mem_singleton.2 rfl)]; exact hgr6.1
  have hs6 : ∀ q, q ∈ [g] → q ≠ g → ins H6b g { (⟨[.int .i64 ((colc p.lp.free k + 1 : Nat) : Int), .int .i64 0, .slice Ap k cp, .slice Am k cm, .slice none 0 0, .slice none 0 0, .slice none 0 0, .slice none 0 0, .slice none 0 0], 9, 96, true⟩ : Ent) with xs := splice [.int .i64 ((colc p.lp.free k + 1 : Nat) : Int), .int .i64 0, .slice Ap k cp, .slice Am k cm, .slice none 0 0, .slice none 0 0, .slice none 0 0, .slice none 0 0, .slice none 0 0] 2 [.slice A6 (k + 1) c6] } q = H2 q := fun q hq hn => by rw [ins_other _ _ hn, hgr6.2 q hq, ins_other _ _ hn]
  generalize ins H6b g { (⟨[.int .i64 ((colc p.lp.free k + 1 : Nat) : Int), .int .i64 0, .slice Ap k cp, .slice Am k cm, .slice none 0 0, .slice none 0 0, .slice none 0 0, .slice none 0 0, .slice none 0 0], 9, 96, true⟩ : Ent) with xs := splice [.int .i64 ((colc p.lp.free k + 1 : Nat) : Int), .int .i64 0, .slice Ap k cp, .slice Am k cm, .slice none 0 0, .slice none 0 0, .slice none 0 0, .slice none 0 0, .slice none 0 0] 2 [.slice A6 (k + 1) c6] } = H6 at hg6 hG6 hs6 ⊢
  refine vco_k [1, 3, 4, 6, 19, 20, 21] ?_
  have hle6 := hle2.trans hG6.le
  have hv6 := cell_le hG6.le hv2
  obtain ⟨hmv6, hap6⟩ := hG6.keep _ _ _ _ _ hmv2 hap2
  have hne6 : ∀ q, q ∈ [g] → H6 q ≠ none := fun q hq => by rw [List.mem_singleton.1 hq, hg6]; simp
  refine vc_sr ?_
  refine vco_run tbOk 1 rfl ?_
  refine vco_k [1, 3, 4, 19, 20, 21, 36] ?_
  refine vc_cond rfl (fun hb => ?_) (fun hb => ?_)
  ·
   have hb : p.lp.free k = true := by rw [hfr]; exact hb
   refine vc_draw (.drawK (kc2 ⟨gv, 0, none⟩ (.pointer (some ⟨g, 0, none⟩)) ⟨g, 3, none⟩ (.slice Am k cm))) [0, 1, 2, 3, 4, 5, 6, 7, 8, 9, 10, 11] follows (by kernel_rfl) ?_
   have hcv8 : cell H6 ⟨gv, 0, none⟩ = some (.pointer (some ⟨g, 0, none⟩)) := cell_le (rem_le _ _) hv6
   have hcF8 : cell H6 ⟨g, 3, none⟩ = some (.slice Am k cm) := by simp [cell, hg6]
   have hcov8 := kc2_cov hcv8 hcF8
   refine vck_load hcov8 tbOk rfl rfl rfl kc2_a ?_
   refine vck_load hcov8 tbOk rfl rfl rfl kc2_a ?_
   refine vck_nil hcov8 rfl ?_
   refine vck_fld hcov8 tbOk rfl rfl rfl ?_
   refine vck_load hcov8 tbOk rfl rfl rfl (kc2_b (addr_ne (Ne.symm hgv))) ?_
   refine vck_move hcov8 rfl ?_
   refine vck_callC (cap := [.pointer (some ⟨gv, 0, none⟩)]) (args := []) rfl rfl (column_ok (w := colc p.lp.free k + 1) hcv8 hg6 hgv (by omega)) (fun v H' hp => by obtain ⟨_, rfl⟩ := hp; exact kc2_cov (hcv_ins hcv8 hgv) (by simp [cell, ins])) ?_
   rintro _ _ ⟨rfl, rfl⟩
   refine vck_build1 Tryz.underlying93 el3 rfl rfl ?_
   intro gb8 hgb8
   have hne8 : ∀ q, q ∈ [g] → ins H6 g ⟨[.int .i64 ((colc p.lp.free k + 1 + 1 : Nat) : Int), .int .i64 0, .slice A6 (k + 1) c6, .slice Am k cm, .slice none 0 0, .slice none 0 0, .slice none 0 0, .slice none 0 0, .slice none 0 0], 9, 96, true⟩ q ≠ none := fun q hq => by
    by_cases e : q = g
    · rw [e, ins_same]; simp
    · rw [ins_other _ _ e]; exact hne6 q hq
   have own8 : Own (rem (ins H6 g ⟨[.int .i64 ((colc p.lp.free k + 1 + 1 : Nat) : Int), .int .i64 0, .slice A6 (k + 1) c6, .slice Am k cm, .slice none 0 0, .slice none 0 0, .slice none 0 0, .slice none 0 0, .slice none 0 0], 9, 96, true⟩) [g]) (.slice Am k cm) 3 1 k (ints (mnz p.lp.free) k) := by rw [rem_ins_in _ (List.mem_singleton.2 rfl)]; exact hmv6
   have hcovb8 := kc2_cov (cell_le (Heap.le_ins (whole [.int .i64 ((colc p.lp.free k + 1 : Nat) : Int)] 3) hgb8) (hcv_ins (e := ⟨[.int .i64 ((colc p.lp.free k + 1 + 1 : Nat) : Int), .int .i64 0, .slice A6 (k + 1) c6, .slice Am k cm, .slice none 0 0, .slice none 0 0, .slice none 0 0, .slice none 0 0, .slice none 0 0], 9, 96, true⟩) hcv8 hgv)) (cell_le (Heap.le_ins (whole [.int .i64 ((colc p.lp.free k + 1 : Nat) : Int)] 3) hgb8) (show cell (ins H6 g ⟨[.int .i64 ((colc p.lp.free k + 1 + 1 : Nat) : Int), .int .i64 0, .slice A6 (k + 1) c6, .slice Am k cm, .slice none 0 0, .slice none 0 0, .slice none 0 0, .slice none 0 0, .slice none 0 0], 9, 96, true⟩) ⟨g, 3, none⟩ = some (.slice Am k cm) by simp [cell, ins]))
   refine vck_append Tryz.underlying93 el3 rfl rfl (own8.lift.1.ins _ hgb8) (rd_ins _ _ _ _ _ _) rfl (one_int _) (by omega) (by omega) hcovb8 ?_
   intro v8 H8b ha8
   obtain ⟨A8, c8, rfl⟩ := ha8.own.form
   have hgr8 := grew (gs := [g]) hne8 hgb8 own8 ha8
   have hg8b : H8b g = some ⟨[.int .i64 ((colc p.lp.free k + 1 + 1 : Nat) : Int), .int .i64 0, .slice A6 (k + 1) c6, .slice Am k cm, .slice none 0 0, .slice none 0 0, .slice none 0 0, .slice none 0 0, .slice none 0 0], 9, 96, true⟩ := by rw [hgr8.2 g (List.mem_singleton.2 rfl), ins_same]
   have hcov8d := kc2_cov (show cell H8b ⟨gv, 0, none⟩ = some (.pointer (some ⟨g, 0, none⟩)) from cell_le (rem_le _ [g]) (cell_le hgr8.1.le (by rw [rem_ins_in _ (List.mem_singleton.2 rfl)]; exact hv6))) (show cell H8b ⟨g, 3, none⟩ = some (.slice Am k cm) by simp [cell, hg8b])
   refine vck_nil hcov8d rfl ?_
   refine vck_fld hcov8d tbOk rfl rfl rfl ?_
   obtain ⟨ti8, hti8, htz8⟩ := sz93
   refine vck_hst (g := g) (o := 3) rfl hg8b rfl (by show 3 + 1 ≤ 9; omega) hti8 htz8 rfl rfl rfl rfl ?_
   have hg8 : ins H8b g { (⟨[.int .i64 ((colc p.lp.free k + 1 + 1 : Nat) : Int), .int .i64 0, .slice A6 (k + 1) c6, .slice Am k cm, .slice none 0 0, .slice none 0 0, .slice none 0 0, .slice none 0 0, .slice none 0 0], 9, 96, true⟩ : Ent) with xs := splice [.int .i64 ((colc p.lp.free k + 1 + 1 : Nat) : Int), .int .i64 0, .slice A6 (k + 1) c6, .slice Am k cm, .slice none 0 0, .slice none 0 0, .slice none 0 0, .slice none 0 0, .slice none 0 0] 3 [.slice A8 (k + 1) c8] } g = some ⟨[.int .i64 ((colc p.lp.free k + 1 + 1 : Nat) : Int), .int .i64 0, .slice A6 (k + 1) c6, .slice A8 (k + 1) c8, .slice none 0 0, .slice none 0 0, .slice none 0 0, .slice none 0 0, .slice none 0 0], 9, 96, true⟩ := by rw [ins_same]; rfl
   have hG8 : Grew (rem H6 [g]) (.slice Am k cm) 3 1 (k + 1) (ints (mnz p.lp.free) k ++ [.int .i64 ((colc p.lp.free k + 1 : Nat) : Int)]) (.slice A8 (k + 1) c8) (rem (ins H8b g { (⟨[.int .i64 ((colc p.lp.free k + 1 + 1 : Nat) : Int), .int .i64 0, .slice A6 (k + 1) c6, .slice Am k cm, .slice none 0 0, .slice none 0 0, .slice none 0 0, .slice none 0 0, .slice none 0 0], 9, 96, true⟩ : Ent) with xs := splice [.int .i64 ((colc p.lp.free k + 1 + 1 : Nat) : Int), .int .i64 0, .slice A6 (k + 1) c6, .slice Am k cm, .slice none 0 0, .slice none 0 0, .slice none 0 0, .slice none 0 0, .slice none 0 0] 3 [.slice A8 (k + 1) c8] }) [g]) := by rw [rem_ins_in _ (List.mem_singleton.2 rfl), ← rem_ins_in (H := H6) ⟨[.int .i64 ((colc p.lp.free k + 1 + 1 : Nat) : Int), .int .i64 0, .slice A6 (k + 1) c6, .slice Am k cm, .slice none 0 0, .slice none 0 0, .slice none 0 0, .slice none 0 0, .slice none 0 0], 9, 96, true⟩ (List.mem_singleton.2 rfl)]; exact hgr8.1
   have hs8 : ∀ q, q ∈ [g] → q ≠ g → ins H8b g { (⟨[.int .i64 ((colc p.lp.free k + 1 + 1 : Nat) : Int), .int .i64 0, .slice A6 (k + 1) c6, .slice Am k cm, .slice none 0 0, .slice none 0 0, .slice none 0 0, .slice none 0 0, .slice none 0 0], 9, 96, true⟩ : Ent) with xs := splice [.int .i64 ((colc p.lp.free k + 1 + 1 : Nat) : Int), .int .i64 0, .slice A6 (k + 1) c6, .slice Am k cm, .slice none 0 0, .slice none 0 0, .slice none 0 0, .slice none 0 0, .slice none 0 0] 3 [.slice A8 (k + 1) c8] } q = H6 q := fun q hq hn => by rw [ins_other _ _ hn, hgr8.2 q hq, ins_other _ _ hn]
   generalize ins H8b g { (⟨[.int .i64 ((colc p.lp.free k + 1 + 1 : Nat) : Int), .int .i64 0, .slice A6 (k + 1) c6, .slice Am k cm, .slice none 0 0, .slice none 0 0, .slice none 0 0, .slice none 0 0, .slice none 0 0], 9, 96, true⟩ : Ent) with xs := splice [.int .i64 ((colc p.lp.free k + 1 + 1 : Nat) : Int), .int .i64 0, .slice A6 (k + 1) c6, .slice Am k cm, .slice none 0 0, .slice none 0 0, .slice none 0 0, .slice none 0 0, .slice none 0 0] 3 [.slice A8 (k + 1) c8] } = H8 at hg8 hG8 hs8 ⊢
   refine vco_end ?_
   have hv8 := cell_le hG8.le hv6
   refine vc_keep [1, 3, 4, 19, 20, 21] rfl ?_
   refine vc_region rfl ?_
   refine vco_add rfl rfl ⟨by omega, by omega⟩ ?_
   refine vco_run tbOk 1 rfl ?_
   refine vco_end ?_
   exact ⟨k + 1, _, _, by omega, sub_auto, hv8, by rw [hg8, hcs, if_pos hb], hle6.trans hG8.le, by rw [ints_succ]; exact (hG8.keep _ _ _ _ _ hG6.own hap6.symm).1, by rw [ints_succ]; unfold mnz; rw [if_pos hb]; exact hG8.own, (hG8.keep _ _ _ _ _ hG6.own hap6.symm).2.symm, by omega⟩
  ·
   have hb : ¬ p.lp.free k = true := by rw [hfr, hb]; simp
   refine vc_draw .drawH [0, 1, 2, 3, 4, 5, 6, 7, 8, 9] follows (by kernel_rfl) ?_
   have hcv9 : cell H6 ⟨gv, 0, none⟩ = some (.pointer (some ⟨g, 0, none⟩)) := cell_le (rem_le _ _) hv6
   have hcF9 : cell H6 ⟨g, 3, none⟩ = some (.slice Am k cm) := by simp [cell, hg6]
   refine vco_hload tbOk rfl rfl rfl hcv9 ?_
   refine vco_hload tbOk rfl rfl rfl hcv9 ?_
   refine vco_run tbOk 1 rfl ?_
   refine vco_hfld tbOk rfl rfl rfl ?_
   refine vco_hload tbOk rfl rfl rfl hcF9 ?_
   refine vco_build Tryz.underlying93 el3 rfl rfl rfl rfl rfl rfl rfl ?_
   intro gb9 hgb9
   refine vco_append Tryz.underlying93 el3 rfl rfl (hmv6.lift.1.ins _ hgb9) (rd_ins _ _ _ _ _ _) rfl (one_int _) (by omega) (by omega) ?_
   intro v9 H9b ha9
   obtain ⟨A9, c9, rfl⟩ := ha9.own.form
   have hgr9 := grew (gs := [g]) hne6 hgb9 hmv6 ha9
   have hg9b : H9b g = some ⟨[.int .i64 ((colc p.lp.free k + 1 : Nat) : Int), .int .i64 0, .slice A6 (k + 1) c6, .slice Am k cm, .slice none 0 0, .slice none 0 0, .slice none 0 0, .slice none 0 0, .slice none 0 0], 9, 96, true⟩ := by rw [hgr9.2 g (List.mem_singleton.2 rfl)]; exact hg6
   refine vco_run tbOk 1 rfl ?_
   refine vco_hfld tbOk rfl rfl rfl ?_
   obtain ⟨ti9, hti9, htz9⟩ := sz93
   refine vco_hst (g := g) (o := 3) (.inr rfl) rfl hg9b rfl (by show 3 + 1 ≤ 9; omega) hti9 htz9 rfl rfl rfl rfl ?_
   have hg9 : ins H9b g { (⟨[.int .i64 ((colc p.lp.free k + 1 : Nat) : Int), .int .i64 0, .slice A6 (k + 1) c6, .slice Am k cm, .slice none 0 0, .slice none 0 0, .slice none 0 0, .slice none 0 0, .slice none 0 0], 9, 96, true⟩ : Ent) with xs := splice [.int .i64 ((colc p.lp.free k + 1 : Nat) : Int), .int .i64 0, .slice A6 (k + 1) c6, .slice Am k cm, .slice none 0 0, .slice none 0 0, .slice none 0 0, .slice none 0 0, .slice none 0 0] 3 [.slice A9 (k + 1) c9] } g = some ⟨[.int .i64 ((colc p.lp.free k + 1 : Nat) : Int), .int .i64 0, .slice A6 (k + 1) c6, .slice A9 (k + 1) c9, .slice none 0 0, .slice none 0 0, .slice none 0 0, .slice none 0 0, .slice none 0 0], 9, 96, true⟩ := by rw [ins_same]; rfl
   have hG9 : Grew (rem H6 [g]) (.slice Am k cm) 3 1 (k + 1) (ints (mnz p.lp.free) k ++ [.int .i64 (-1)]) (.slice A9 (k + 1) c9) (rem (ins H9b g { (⟨[.int .i64 ((colc p.lp.free k + 1 : Nat) : Int), .int .i64 0, .slice A6 (k + 1) c6, .slice Am k cm, .slice none 0 0, .slice none 0 0, .slice none 0 0, .slice none 0 0, .slice none 0 0], 9, 96, true⟩ : Ent) with xs := splice [.int .i64 ((colc p.lp.free k + 1 : Nat) : Int), .int .i64 0, .slice A6 (k + 1) c6, .slice Am k cm, .slice none 0 0, .slice none 0 0, .slice none 0 0, .slice none 0 0, .slice none 0 0] 3 [.slice A9 (k + 1) c9] }) [g]) := by rw [rem_ins_in _ (List.mem_singleton.2 rfl)]; exact hgr9.1
   have hs9 : ∀ q, q ∈ [g] → q ≠ g → ins H9b g { (⟨[.int .i64 ((colc p.lp.free k + 1 : Nat) : Int), .int .i64 0, .slice A6 (k + 1) c6, .slice Am k cm, .slice none 0 0, .slice none 0 0, .slice none 0 0, .slice none 0 0, .slice none 0 0], 9, 96, true⟩ : Ent) with xs := splice [.int .i64 ((colc p.lp.free k + 1 : Nat) : Int), .int .i64 0, .slice A6 (k + 1) c6, .slice Am k cm, .slice none 0 0, .slice none 0 0, .slice none 0 0, .slice none 0 0, .slice none 0 0] 3 [.slice A9 (k + 1) c9] } q = H6 q := fun q hq hn => by rw [ins_other _ _ hn, hgr9.2 q hq]
   generalize ins H9b g { (⟨[.int .i64 ((colc p.lp.free k + 1 : Nat) : Int), .int .i64 0, .slice A6 (k + 1) c6, .slice Am k cm, .slice none 0 0, .slice none 0 0, .slice none 0 0, .slice none 0 0, .slice none 0 0], 9, 96, true⟩ : Ent) with xs := splice [.int .i64 ((colc p.lp.free k + 1 : Nat) : Int), .int .i64 0, .slice A6 (k + 1) c6, .slice Am k cm, .slice none 0 0, .slice none 0 0, .slice none 0 0, .slice none 0 0, .slice none 0 0] 3 [.slice A9 (k + 1) c9] } = H9 at hg9 hG9 hs9 ⊢
   refine vco_end ?_
   have hv9 := cell_le hG9.le hv6
   refine vc_keep [1, 3, 4, 19, 20, 21] rfl ?_
   refine vc_region rfl ?_
   refine vco_add rfl rfl ⟨by omega, by omega⟩ ?_
   refine vco_run tbOk 1 rfl ?_
   refine vco_end ?_
   exact ⟨k + 1, _, _, by omega, sub_auto, hv9, by rw [hg9, hcs, if_neg hb], hle6.trans hG9.le, by rw [ints_succ]; exact (hG9.keep _ _ _ _ _ hG6.own hap6.symm).1, by rw [ints_succ]; unfold mnz; rw [if_neg hb]; exact hG9.own, (hG9.keep _ _ _ _ _ hG6.own hap6.symm).2.symm, by omega⟩
 ·
  have hb : n ≤ k := by simpa using hb
  obtain rfl : n = k := by omega
  refine vc_exit ?_
  refine vc_keep [1, 3, 4] rfl ?_
  refine vc_sr ?_
  refine vco_run tbOk 3 rfl ?_
  refine vco_make Tryz.underlying93 el3 rfl rfl rfl (by omega) (by omega) (by omega) (by omega) ?_
  intro gk hgk
  rw [show ((m : Int)).toNat = m from by omega]
  have hgkg : gk ≠ g := fun e => by rw [e, hg2] at hgk; cases hgk
  have hc1 : p.c1 = colc p.lp.free n := by rw [hn]; rfl
  have hr3 : rem (ins H2 gk ⟨madeL [.int .i64 0] (m * 1), m * 1, 3, true⟩) [gk, g] = rem H2 [g] := rem_ins_new _ hgk
  have hg3 : ins H2 gk ⟨madeL [.int .i64 0] (m * 1), m * 1, 3, true⟩ g = some ⟨[.int .i64 ((p.c1 : Nat) : Int), .int .i64 0, .slice Ap n cp, .slice Am n cm, .slice none 0 0, .slice none 0 0, .slice none 0 0, .slice none 0 0, .slice none 0 0], 9, 96, true⟩ := by rw [ins_other _ _ (Ne.symm hgkg), hc1]; exact hg2
  have hgk3 : ins H2 gk ⟨madeL [.int .i64 0] (m * 1), m * 1, 3, true⟩ gk = some ⟨(ints (fun j => if j < 0 then slz p.lp.rel p.c1 j else 0) m), m * 1, 3, true⟩ := by rw [ins_same, Nat.mul_one, madeL_one, ints_zero]
  have hv3 : cell (rem (ins H2 gk ⟨madeL [.int .i64 0] (m * 1), m * 1, 3, true⟩) [gk, g]) ⟨gv, 0, none⟩ = some (.pointer (some ⟨g, 0, none⟩)) := by rw [hr3]; exact hv2
  have hle3 : Heap.le H (rem (ins H2 gk ⟨madeL [.int .i64 0] (m * 1), m * 1, 3, true⟩) [gk, g]) := by rw [hr3]; exact hle2
  have hpv3 : Own (rem (ins H2 gk ⟨madeL [.int .i64 0] (m * 1), m * 1, 3, true⟩) [gk, g]) (.slice Ap n cp) 3 1 n (ints (fun j => (colc p.lp.free j : Int)) n) := by rw [hr3]; exact hpv2
  have hmv3 : Own (rem (ins H2 gk ⟨madeL [.int .i64 0] (m * 1), m * 1, 3, true⟩) [gk, g]) (.slice Am n cm) 3 1 n (ints (mnz p.lp.free) n) := by rw [hr3]; exact hmv2
  generalize ins H2 gk ⟨madeL [.int .i64 0] (m * 1), m * 1, 3, true⟩ = H3 at hg3 hgk3 hv3 hle3 hpv3 hmv3 ⊢
  clear hr3 hv2 hg2 hle2 hpv2 hmv2
  refine vco_run tbOk 1 rfl ?_
  refine vco_k [1, 3, 4, 7] ?_
  refine vc_seq ?_
  refine vc_sr ?_
  refine vco_run tbOk 4 rfl ?_
  refine vco_k [1, 3, 4, 7, 63, 64, 65] ?_
  refine vc_block ?_
  refine vc_loop3 (fun (i : Nat) (sv : Value) (ys : List Value) => m - i) (fun (i : Nat) (sv : Value) (ys : List Value) => put (put (put (put (put (put (put (emp) 1 (.box [.slice Af n cf, .slice Ar m cr])) 3 (.val (.pointer (some ⟨gv, 0, none⟩)))) 4 (.val (.func (.func 102) #[] #[.pointer (some ⟨gv, 0, none⟩)]))) 7 (.val (.slice (some ⟨gk, 0, none⟩) m m))) 63 (.val (.slice Ar m cr))) 64 (.val (.int .i64 (m : Int)))) 65 (.val (.int .i64 (i : Int)))) (fun (i : Nat) (sv : Value) (ys : List Value) H' => cell (rem H' [gk, g]) ⟨gv, 0, none⟩ = some (.pointer (some ⟨g, 0, none⟩)) ∧ H' g = some ⟨[.int .i64 ((slc p.lp.rel p.c1 i : Nat) : Int), .int .i64 0, .slice Ap n cp, .slice Am n cm, .slice none 0 0, sv, .slice none 0 0, .slice none 0 0, .slice none 0 0], 9, 96, true⟩ ∧ H' gk = some ⟨(ints (fun j => if j < i then slz p.lp.rel p.c1 j else 0) m), m * 1, 3, true⟩ ∧ Heap.le (rem H3 [gk, g]) (rem H' [gk, g]) ∧ Own (rem H' [gk, g]) sv 72 3 i ys ∧ (∀ K : Heap, Els (NumV K) 3 ys (vals (fun j => (p.sgN j : Rat)) i)) ∧ (∀ q, q ∈ blk sv → H q = none) ∧ i ≤ m) 0 (.slice none 0 0) [] (⟨hv3, hg3, hgk3, .refl _, own_nil _ _ _, (fun K => els_nil), (fun q hq => by cases hq), Nat.zero_le _⟩) sub_auto ?_
  rintro i sv ys H4 ⟨hv4, hg4, hgk4, hle4, hsv4, hys4, hbk4, hi4⟩
  obtain ⟨As, cs, rfl⟩ := hsv4.form
  have hsl := slc_le p.lp.rel p.c1 i
  have hcl := colc_le p.lp.free n
  have hcc : p.c1 = colc p.lp.free n := by rw [hn]; rfl
  refine vc_sr ?_
  refine vco_run tbOk 1 rfl ?_
  refine vco_k [1, 3, 4, 7, 63, 64, 65, 66] ?_
  refine vc_seq ?_
  refine vc_cond rfl (fun hb => ?_) (fun hb => ?_)
  ·
   have him : i < m := by simpa using hb
   obtain ⟨r, hr⟩ : ∃ r, p.rows[i]? = some r := ⟨_, List.getElem?_eq_getElem (by omega)⟩
   obtain ⟨A0, c0, f, A1, m1, c1, A2, m2, c2, hrp, hrx⟩ := hxR i r hr
   have hrel : p.lp.rel i = r.2.1 := by show (p.row i).2.1 = _; rw [Prg.row_get hr]
   have hbq : p.lp.b i = r.2.2 := by show (p.row i).2.2 = _; rw [Prg.row_get hr]
   refine vc_skip ?_
   refine vc_keep [1, 3, 4, 7, 63, 64, 65] rfl ?_
   refine vc_seq ?_
   refine vc_block ?_
   refine vc_sr ?_
   refine vco_run tbOk 1 rfl ?_
   refine vco_at_st (vs := [.slice A0 r.1.length c0, .int .i64 r.2.1, .bool f, .slice A1 m1 c1, .slice A2 m2 c2]) tbOk rfl rfl rfl rfl (((hrR.le hle3).le hle4).le (rem_le _ _)) rfl (by decide) hrx (by omega) (by omega) fun _ => ?_
   refine vco_alloc el46 rfl ?_
   refine vco_run tbOk 1 rfl ?_
   obtain ⟨ti, hti, htz⟩ := sz46; refine vco_bstore (.inl ⟨rfl, rfl⟩) rfl rfl rfl hti htz rfl rfl rfl ?_
   refine vco_k [1, 3, 4, 7, 8, 9, 63, 64, 65] ?_
   refine vc_sr ?_
   refine vco_run tbOk 2 rfl ?_
   obtain ⟨ti, hti, htz⟩ := sz3; refine vco_set (.inl rfl) tbOk rfl rfl rfl (by omega) (by omega) (hgk4) rfl (by show 0 + m * 1 ≤ (ints _ m).length; rw [ints_len]; omega) hti htz (fun _ => rfl) rfl rfl rfl fun _ => ?_
   refine vco_k [1, 3, 4, 7, 8, 9, 63, 64, 65] ?_
   have hg5 : ins H4 gk { (⟨(ints (fun j => if j < i then slz p.lp.rel p.c1 j else 0) m), m * 1, 3, true⟩ : Ent) with xs := splice (ints (fun j => if j < i then slz p.lp.rel p.c1 j else 0) m) (0 + ((i : Int)).toNat * 1) [.int .i64 (-1)] } g = some ⟨[.int .i64 ((slc p.lp.rel p.c1 i : Nat) : Int), .int .i64 0, .slice Ap n cp, .slice Am n cm, .slice none 0 0, .slice As i cs, .slice none 0 0, .slice none 0 0, .slice none 0 0], 9, 96, true⟩ := by rw [ins_other _ _ (Ne.symm hgkg)]; exact hg4
   have hgk5 : ins H4 gk { (⟨(ints (fun j => if j < i then slz p.lp.rel p.c1 j else 0) m), m * 1, 3, true⟩ : Ent) with xs := splice (ints (fun j => if j < i then slz p.lp.rel p.c1 j else 0) m) (0 + ((i : Int)).toNat * 1) [.int .i64 (-1)] } gk = some ⟨ints (fun j => if j = i then -1 else if j < i then slz p.lp.rel p.c1 j else 0) m, m * 1, 3, true⟩ := by
    rw [ins_same, ← ints_set]; exact congrArg some slk_ent
   have hr5 : rem (ins H4 gk { (⟨(ints (fun j => if j < i then slz p.lp.rel p.c1 j else 0) m), m * 1, 3, true⟩ : Ent) with xs := splice (ints (fun j => if j < i then slz p.lp.rel p.c1 j else 0) m) (0 + ((i : Int)).toNat * 1) [.int .i64 (-1)] }) [gk, g] = rem H4 [gk, g] := rem_ins_in _ (List.mem_cons_self ..)
   generalize ins H4 gk { (⟨(ints (fun j => if j < i then slz p.lp.rel p.c1 j else 0) m), m * 1, 3, true⟩ : Ent) with xs := splice (ints (fun j => if j < i then slz p.lp.rel p.c1 j else 0) m) (0 + ((i : Int)).toNat * 1) [.int .i64 (-1)] } = H5 at hg5 hgk5 hr5 ⊢
   have hcv5 : cell H5 ⟨gv, 0, none⟩ = some (.pointer (some ⟨g, 0, none⟩)) := cell_le (rem_le _ [gk, g]) (by rw [hr5]; exact hv4)
   refine vc_cut0 (put (put (put (put (put (put (put (put (emp) 1 (.box [.slice Af n cf, .slice Ar m cr])) 3 (.val (.pointer (some ⟨gv, 0, none⟩)))) 4 (.val (.func (.func 102) #[] #[.pointer (some ⟨gv, 0, none⟩)]))) 7 (.val (.slice (some ⟨gk, 0, none⟩) m m))) 9 (.box [.slice A0 r.1.length c0, .int .i64 r.2.1, .bool f, .slice A1 m1 c1, .slice A2 m2 c2])) 63 (.val (.slice Ar m cr))) 64 (.val (.int .i64 (m : Int)))) 65 (.val (.int .i64 (i : Int)))) (fun  H' => H' g = some ⟨[.int .i64 ((slc p.lp.rel p.c1 (i + 1) : Nat) : Int), .int .i64 0, .slice Ap n cp, .slice Am n cm, .slice none 0 0, .slice As i cs, .slice none 0 0, .slice none 0 0, .slice none 0 0], 9, 96, true⟩ ∧ H' gk = some ⟨(ints (fun j => if j < (i + 1) then slz p.lp.rel p.c1 j else 0) m), m * 1, 3, true⟩ ∧ rem H' [gk, g] = rem H4 [gk, g]) ?_ ?_
   ·
    refine vc_sr ?_
    refine vco_run tbOk 3 rfl ?_
    refine vco_k [1, 3, 4, 7, 8, 9, 63, 64, 65, 75] ?_
    refine vc_cond rfl (fun hb => ?_) (fun hb => ?_)
    ·
     have hb2 : ¬ p.lp.rel i = 2 := by rw [hrel]; simpa using hb
     refine vc_region rfl ?_
     refine vco_run tbOk 3 rfl ?_
     refine vco_callC (cap := [.pointer (some ⟨gv, 0, none⟩)]) (args := []) rfl rfl (column_ok (w := slc p.lp.rel p.c1 i) hcv5 hg5 hgv (by omega)) (.inl rfl) ?_
     rintro _ _ ⟨rfl, rfl⟩
     obtain ⟨ti, hti, htz⟩ := sz3; refine vco_set (.inl rfl) tbOk rfl rfl rfl (by omega) (by omega) (by rw [ins_other _ _ hgkg]; exact hgk5) rfl (by show 0 + m * 1 ≤ (ints _ m).length; rw [ints_len]; omega) hti htz (fun _ => rfl) rfl rfl rfl fun _ => ?_
     refine vco_end ?_
     refine ⟨sub_auto, ?_, ?_, ?_⟩
     · rw [ins_other _ _ (Ne.symm hgkg), ins_same, slc_no hb2]
     · rw [ins_same, slk_set hb2]; exact congrArg some slk_ent
     · rw [rem_ins_in _ (List.mem_cons_self ..), rem_ins_in _ (List.mem_cons_of_mem _ (List.mem_singleton.2 rfl))]; exact hr5
    ·
     have hb2 : p.lp.rel i = 2 := by rw [hrel]; simpa using hb
     refine vc_skip ?_
     refine ⟨sub_auto, ?_, ?_, hr5⟩
     · rw [hg5, slc_eq hb2]
     · rw [hgk5, slk_eq hb2]
   ·
    rintro H7 ⟨hg7, hgk7, hr7⟩
    have hne7 : ∀ q, q ∈ [gk, g] → H7 q ≠ none := (fun q hq => by rcases List.mem_cons.1 hq with e | e; (rw [e, hgk7]; simp); (rw [List.mem_singleton.1 e, hg7]; simp))
    have hsv7 : Own (rem H7 [gk, g]) (.slice As i cs) 72 3 i ys := by rw [hr7]; exact hsv4
    have hne7b := own_ne hne7 hsv7
    have hbd : RawV H (.agg #[.bool f, .slice A1 m1 c1, .slice A2 m2 c2]) r.2.2 N := RowP.bound hrp
    have hszb := hbd.size
    have hleb : Heap.le H (rem H7 (blk (.slice As i cs) ++ [gk, g])) := le_blk (by rw [hr7]; exact hle3.trans hle4) hbk4
    refine vc_sr ?_
    refine vco_run tbOk 2 rfl ?_
    refine vco_call rfl rfl (Fn.frM hne7b (sload_ok (hbd.le hleb) (by omega))) ?_
    rintro v9 H9 ⟨hk9, hl9, n9, d9, b9, rfl, hq9⟩
    refine vco_call rfl rfl (Fn.frI (hk9.ne hne7b) (ssign_ok hq9 (by omega))) ?_
    rintro v10 H8 ⟨hk10, hl10, rfl⟩
    obtain ⟨hsv8, hle78, hs8⟩ := kept_own (hk9.trans hk10) hsv7
    have hg8 := (hs8 g (List.mem_cons_of_mem _ (List.mem_singleton.2 rfl))).trans hg7
    have hgk8 := (hs8 gk (List.mem_cons_self ..)).trans hgk7
    rw [hr7] at hle78
    have hle8 := hle4.trans hle78
    have hv8 := cell_le hle78 hv4
    have hne8 : ∀ q, q ∈ [gk, g] → H8 q ≠ none := (fun q hq => by rcases List.mem_cons.1 hq with e | e; (rw [e, hgk8]; simp); (rw [List.mem_singleton.1 e, hg8]; simp))
    refine vco_run tbOk 1 rfl ?_
    refine vco_k [1, 3, 4, 7, 9, 10, 63, 64, 65] ?_
    by_cases hneg : r.2.2 < 0
    ·
     have hsgv : (p.sgN i : Rat) = ((-1 : Int) : Rat) := by show ((sgi (p.lp.b i) (p.lp.rel i) : Int) : Rat) = _; rw [hbq]; unfold sgi; rw [if_pos (.inl hneg)]
     refine vc_sr ?_
     refine vco_run tbOk 1 rfl ?_
     refine vco_cmp true rfl rfl (clt_t (sgn_lt.2 hneg)) ?_
     refine vco_run tbOk 9 rfl ?_
     refine vco_k [1, 3, 4, 7, 63, 64, 65, 95] ?_
     refine vc_cond_t rfl ?_
     refine vc_draw .drawH [0, 1, 2, 3, 4, 5, 6, 7, 8, 9, 10] follows (by kernel_rfl) ?_
     have hcv20 : cell H8 ⟨gv, 0, none⟩ = some (.pointer (some ⟨g, 0, none⟩)) := cell_le (rem_le _ _) hv8
     have hcF20 : cell H8 ⟨g, 5, none⟩ = some (.slice As i cs) := by simp [cell, hg8]
     refine vco_hload tbOk rfl rfl rfl hcv20 ?_
     refine vco_hload tbOk rfl rfl rfl hcv20 ?_
     refine vco_run tbOk 1 rfl ?_
     refine vco_hfld tbOk rfl rfl rfl ?_
     refine vco_hload tbOk rfl rfl rfl hcF20 ?_
     refine vco_callM rfl rfl swhole_ok (fun _ _ h => by first | exact h.le | exact h.1) ?_
     rintro _ _ ⟨e20, rfl⟩
     rw [e20]
     refine vco_build Tryz.underlying69 el72 rfl rfl rfl rfl rfl rfl rfl ?_
     intro gb20 hgb20
     refine vco_append Tryz.underlying69 el72 rfl rfl (hsv8.lift.1.ins _ hgb20) (rd_ins _ _ _ _ _ _) rfl (by decide) (by omega) (by omega) ?_
     intro v20 H20b ha20
     obtain ⟨A20, c20, rfl⟩ := ha20.own.form
     have hgr20 := grew (gs := [gk, g]) hne8 hgb20 hsv8 ha20
     have hg20b : H20b g = some ⟨[.int .i64 ((slc p.lp.rel p.c1 (i + 1) : Nat) : Int), .int .i64 0, .slice Ap n cp, .slice Am n cm, .slice none 0 0, .slice As i cs, .slice none 0 0, .slice none 0 0, .slice none 0 0], 9, 96, true⟩ := by rw [hgr20.2 g (List.mem_cons_of_mem _ (List.mem_singleton.2 rfl))]; exact hg8
     refine vco_run tbOk 1 rfl ?_
     refine vco_hfld tbOk rfl rfl rfl ?_
     obtain ⟨ti20, hti20, htz20⟩ := sz69
     refine vco_hst (g := g) (o := 5) (.inr rfl) rfl hg20b rfl (by show 5 + 1 ≤ 9; omega) hti20 htz20 rfl rfl rfl rfl ?_
     have hg20 : ins H20b g { (⟨[.int .i64 ((slc p.lp.rel p.c1 (i + 1) : Nat) : Int), .int .i64 0, .slice Ap n cp, .slice Am n cm, .slice none 0 0, .slice As i cs, .slice none 0 0, .slice none 0 0, .slice none 0 0], 9, 96, true⟩ : Ent) with xs := splice [.int .i64 ((slc p.lp.rel p.c1 (i + 1) : Nat) : Int), .int .i64 0, .slice Ap n cp, .slice Am n cm, .slice none 0 0, .slice As i cs, .slice none 0 0, .slice none 0 0, .slice none 0 0] 5 [.slice A20 (i + 1) c20] } g = some ⟨[.int .i64 ((slc p.lp.rel p.c1 (i + 1) : Nat) : Int), .int .i64 0, .slice Ap n cp, .slice Am n cm, .slice none 0 0, .slice A20 (i + 1) c20, .slice none 0 0, .slice none 0 0, .slice none 0 0], 9, 96, true⟩ := by rw [ins_same]; rfl
     have hG20 : Grew (rem H8 [gk, g]) (.slice As i cs) 72 3 (i + 1) (ys ++ cellsL [N3 (-1) 1 none]) (.slice A20 (i + 1) c20) (rem (ins H20b g { (⟨[.int .i64 ((slc p.lp.rel p.c1 (i + 1) : Nat) : Int), .int .i64 0, .slice Ap n cp, .slice Am n cm, .slice none 0 0, .slice As i cs, .slice none 0 0, .slice none 0 0, .slice none 0 0], 9, 96, true⟩ : Ent) with xs := splice [.int .i64 ((slc p.lp.rel p.c1 (i + 1) : Nat) : Int), .int .i64 0, .slice Ap n cp, .slice Am n cm, .slice none 0 0, .slice As i cs, .slice none 0 0, .slice none 0 0, .slice none 0 0] 5 [.slice A20 (i + 1) c20] }) [gk, g]) := by rw [rem_ins_in _ (List.mem_cons_of_mem _ (List.mem_singleton.2 rfl))]; exact hgr20.1
     have hs20 : ∀ q, q ∈ [gk, g] → q ≠ g → ins H20b g { (⟨[.int .i64 ((slc p.lp.rel p.c1 (i + 1) : Nat) : Int), .int .i64 0, .slice Ap n cp, .slice Am n cm, .slice none 0 0, .slice As i cs, .slice none 0 0, .slice none 0 0, .slice none 0 0], 9, 96, true⟩ : Ent) with xs := splice [.int .i64 ((slc p.lp.rel p.c1 (i + 1) : Nat) : Int), .int .i64 0, .slice Ap n cp, .slice Am n cm, .slice none 0 0, .slice As i cs, .slice none 0 0, .slice none 0 0, .slice none 0 0] 5 [.slice A20 (i + 1) c20] } q = H8 q := fun q hq hn => by rw [ins_other _ _ hn, hgr20.2 q hq]
     generalize ins H20b g { (⟨[.int .i64 ((slc p.lp.rel p.c1 (i + 1) : Nat) : Int), .int .i64 0, .slice Ap n cp, .slice Am n cm, .slice none 0 0, .slice As i cs, .slice none 0 0, .slice none 0 0, .slice none 0 0], 9, 96, true⟩ : Ent) with xs := splice [.int .i64 ((slc p.lp.rel p.c1 (i + 1) : Nat) : Int), .int .i64 0, .slice Ap n cp, .slice Am n cm, .slice none 0 0, .slice As i cs, .slice none 0 0, .slice none 0 0, .slice none 0 0] 5 [.slice A20 (i + 1) c20] } = H20 at hg20 hG20 hs20 ⊢
     refine vco_end ?_
     refine vc_keep [1, 3, 4, 7, 63, 64, 65] rfl ?_
     refine vc_region rfl ?_
     refine vco_add rfl rfl ⟨by omega, by omega⟩ ?_
     refine vco_run tbOk 1 rfl ?_
     refine vco_end ?_
     exact ⟨i + 1, _, ys ++ cellsL [N3 (-1) 1 none], by omega, sub_auto, cell_le hG20.le hv8, hg20, by rw [hs20 gk (List.mem_cons_self ..) hgkg]; exact hgk8, hle8.trans hG20.le, hG20.own, fun K => by rw [vals_snoc]; exact (hys4 K).append (els_one (by rw [hsgv]; exact numV_int K (n := -1) (by decide) (by decide)) rfl), hG20.blk (hle3.trans hle8) hbk4, by omega⟩
    ·
     skip
     by_cases hze : r.2.2 = 0
     ·
      skip
      by_cases hr3 : r.2.1 = 3
      ·
       have hsgv : (p.sgN i : Rat) = ((-1 : Int) : Rat) := by show ((sgi (p.lp.b i) (p.lp.rel i) : Int) : Rat) = _; rw [hbq, hrel]; unfold sgi; rw [if_pos (.inr ⟨hze, hr3⟩)]
       refine vc_sr ?_
       refine vco_run tbOk 1 rfl ?_
       refine vco_cmp false rfl rfl (clt_f (sgn_ge.2 (by grind))) ?_
       refine vco_run tbOk 2 rfl ?_
       refine vco_cmp true rfl rfl (ceq_t (sgn_eq.2 hze)) ?_
       refine vco_run tbOk 3 rfl ?_
       refine vco_cmp true rfl rfl (ceq_t hr3) ?_
       refine vco_run tbOk 2 rfl ?_
       refine vco_k [1, 3, 4, 7, 63, 64, 65, 95] ?_
       refine vc_cond_t rfl ?_
       refine vc_draw .drawH [0, 1, 2, 3, 4, 5, 6, 7, 8, 9, 10] follows (by kernel_rfl) ?_
       have hcv20 : cell H8 ⟨gv, 0, none⟩ = some (.pointer (some ⟨g, 0, none⟩)) := cell_le (rem_le _ _) hv8
       have hcF20 : cell H8 ⟨g, 5, none⟩ = some (.slice As i cs) := by simp [cell, hg8]
       refine vco_hload tbOk rfl rfl rfl hcv20 ?_
       refine vco_hload tbOk rfl rfl rfl hcv20 ?_
       refine vco_run tbOk 1 rfl ?_
       refine vco_hfld tbOk rfl rfl rfl ?_
       refine vco_hload tbOk rfl rfl rfl hcF20 ?_
       refine vco_callM rfl rfl swhole_ok (fun _ _ h => by first | exact h.le | exact h.1) ?_
       rintro _ _ ⟨e20, rfl⟩
       rw [e20]
       refine vco_build Tryz.underlying69 el72 rfl rfl rfl rfl rfl rfl rfl ?_
       intro gb20 hgb20
       refine vco_append Tryz.underlying69 el72 rfl rfl (hsv8.lift.1.ins _ hgb20) (rd_ins _ _ _ _ _ _) rfl (by decide) (by omega) (by omega) ?_
       intro v20 H20b ha20
       obtain ⟨A20, c20, rfl⟩ := ha20.own.form
       have hgr20 := grew (gs := [gk, g]) hne8 hgb20 hsv8 ha20
       have hg20b : H20b g = some ⟨[.int .i64 ((slc p.lp.rel p.c1 (i + 1) : Nat) : Int), .int .i64 0, .slice Ap n cp, .slice Am n cm, .slice none 0 0, .slice As i cs, .slice none 0 0, .slice none 0 0, .slice none 0 0], 9, 96, true⟩ := by rw [hgr20.2 g (List.mem_cons_of_mem _ (List.mem_singleton.2 rfl))]; exact hg8
       refine vco_run tbOk 1 rfl ?_
       refine vco_hfld tbOk rfl rfl rfl ?_
       obtain ⟨ti20, hti20, htz20⟩ := sz69
       refine vco_hst (g := g) (o := 5) (.inr rfl) rfl hg20b rfl (by show 5 + 1 ≤ 9; omega) hti20 htz20 rfl rfl rfl rfl ?_
       have hg20 : ins H20b g { (⟨[.int .i64 ((slc p.lp.rel p.c1 (i + 1) : Nat) : Int), .int .i64 0, .slice Ap n cp, .slice Am n cm, .slice none 0 0, .slice As i cs, .slice none 0 0, .slice none 0 0, .slice none 0 0], 9, 96, true⟩ : Ent) with xs := splice [.int .i64 ((slc p.lp.rel p.c1 (i + 1) : Nat) : Int), .int .i64 0, .slice Ap n cp, .slice Am n cm, .slice none 0 0, .slice As i cs, .slice none 0 0, .slice none 0 0, .slice none 0 0] 5 [.slice A20 (i + 1) c20] } g = some ⟨[.int .i64 ((slc p.lp.rel p.c1 (i + 1) : Nat) : Int), .int .i64 0, .slice Ap n cp, .slice Am n cm, .slice none 0 0, .slice A20 (i + 1) c20, .slice none 0 0, .slice none 0 0, .slice none 0 0], 9, 96, true⟩ := by rw [ins_same]; rfl
       have hG20 : Grew (rem H8 [gk, g]) (.slice As i cs) 72 3 (i + 1) (ys ++ cellsL [N3 (-1) 1 none]) (.slice A20 (i + 1) c20) (rem (ins H20b g { (⟨[.int .i64 ((slc p.lp.rel p.c1 (i + 1) : Nat) : Int), .int .i64 0, .slice Ap n cp, .slice Am n cm, .slice none 0 0, .slice As i cs, .slice none 0 0, .slice none 0 0, .slice none 0 0], 9, 96, true⟩ : Ent) with xs := splice [.int .i64 ((slc p.lp.rel p.c1 (i + 1) : Nat) : Int), .int .i64 0, .slice Ap n cp, .slice Am n cm, .slice none 0 0, .slice As i cs, .slice none 0 0, .slice none 0 0, .slice none 0 0] 5 [.slice A20 (i + 1) c20] }) [gk, g]) := by rw [rem_ins_in _ (List.mem_cons_of_mem _ (List.mem_singleton.2 rfl))]; exact hgr20.1
       have hs20 : ∀ q, q ∈ [gk, g] → q ≠ g → ins H20b g { (⟨[.int .i64 ((slc p.lp.rel p.c1 (i + 1) : Nat) : Int), .int .i64 0, .slice Ap n cp, .slice Am n cm, .slice none 0 0, .slice As i cs, .slice none 0 0, .slice none 0 0, .slice none 0 0], 9, 96, true⟩ : Ent) with xs := splice [.int .i64 ((slc p.lp.rel p.c1 (i + 1) : Nat) : Int), .int .i64 0, .slice Ap n cp, .slice Am n cm, .slice none 0 0, .slice As i cs, .slice none 0 0, .slice none 0 0, .slice none 0 0] 5 [.slice A20 (i + 1) c20] } q = H8 q := fun q hq hn => by rw [ins_other _ _ hn, hgr20.2 q hq]
       generalize ins H20b g { (⟨[.int .i64 ((slc p.lp.rel p.c1 (i + 1) : Nat) : Int), .int .i64 0, .slice Ap n cp, .slice Am n cm, .slice none 0 0, .slice As i cs, .slice none 0 0, .slice none 0 0, .slice none 0 0], 9, 96, true⟩ : Ent) with xs := splice [.int .i64 ((slc p.lp.rel p.c1 (i + 1) : Nat) : Int), .int .i64 0, .slice Ap n cp, .slice Am n cm, .slice none 0 0, .slice As i cs, .slice none 0 0, .slice none 0 0, .slice none 0 0] 5 [.slice A20 (i + 1) c20] } = H20 at hg20 hG20 hs20 ⊢
       refine vco_end ?_
       refine vc_keep [1, 3, 4, 7, 63, 64, 65] rfl ?_
       refine vc_region rfl ?_
       refine vco_add rfl rfl ⟨by omega, by omega⟩ ?_
       refine vco_run tbOk 1 rfl ?_
       refine vco_end ?_
       exact ⟨i + 1, _, ys ++ cellsL [N3 (-1) 1 none], by omega, sub_auto, cell_le hG20.le hv8, hg20, by rw [hs20 gk (List.mem_cons_self ..) hgkg]; exact hgk8, hle8.trans hG20.le, hG20.own, fun K => by rw [vals_snoc]; exact (hys4 K).append (els_one (by rw [hsgv]; exact numV_int K (n := -1) (by decide) (by decide)) rfl), hG20.blk (hle3.trans hle8) hbk4, by omega⟩
      ·
       have hsgv : (p.sgN i : Rat) = ((1 : Int) : Rat) := by show ((sgi (p.lp.b i) (p.lp.rel i) : Int) : Rat) = _; rw [hbq, hrel]; unfold sgi; rw [if_neg (by grind)]
       refine vc_sr ?_
       refine vco_run tbOk 1 rfl ?_
       refine vco_cmp false rfl rfl (clt_f (sgn_ge.2 (by grind))) ?_
       refine vco_run tbOk 2 rfl ?_
       refine vco_cmp true rfl rfl (ceq_t (sgn_eq.2 hze)) ?_
       refine vco_run tbOk 3 rfl ?_
       refine vco_cmp false rfl rfl (ceq_f hr3) ?_
       refine vco_run tbOk 2 rfl ?_
       refine vco_k [1, 3, 4, 7, 63, 64, 65, 95] ?_
       refine vc_cond_f rfl ?_
       refine vc_draw .drawH [0, 1, 2, 3, 4, 5, 6, 7, 8, 9, 10] follows (by kernel_rfl) ?_
       have hcv21 : cell H8 ⟨gv, 0, none⟩ = some (.pointer (some ⟨g, 0, none⟩)) := cell_le (rem_le _ _) hv8
       have hcF21 : cell H8 ⟨g, 5, none⟩ = some (.slice As i cs) := by simp [cell, hg8]
       refine vco_hload tbOk rfl rfl rfl hcv21 ?_
       refine vco_hload tbOk rfl rfl rfl hcv21 ?_
       refine vco_run tbOk 1 rfl ?_
       refine vco_hfld tbOk rfl rfl rfl ?_
       refine vco_hload tbOk rfl rfl rfl hcF21 ?_
       refine vco_callM rfl rfl swhole_ok (fun _ _ h => by first | exact h.le | exact h.1) ?_
       rintro _ _ ⟨e21, rfl⟩
       rw [e21]
       refine vco_build Tryz.underlying69 el72 rfl rfl rfl rfl rfl rfl rfl ?_
       intro gb21 hgb21
       refine vco_append Tryz.underlying69 el72 rfl rfl (hsv8.lift.1.ins _ hgb21) (rd_ins _ _ _ _ _ _) rfl (by decide) (by omega) (by omega) ?_
       intro v21 H21b ha21
       obtain ⟨A21, c21, rfl⟩ := ha21.own.form
       have hgr21 := grew (gs := [gk, g]) hne8 hgb21 hsv8 ha21
       have hg21b : H21b g = some ⟨[.int .i64 ((slc p.lp.rel p.c1 (i + 1) : Nat) : Int), .int .i64 0, .slice Ap n cp, .slice Am n cm, .slice none 0 0, .slice As i cs, .slice none 0 0, .slice none 0 0, .slice none 0 0], 9, 96, true⟩ := by rw [hgr21.2 g (List.mem_cons_of_mem _ (List.mem_singleton.2 rfl))]; exact hg8
       refine vco_run tbOk 1 rfl ?_
       refine vco_hfld tbOk rfl rfl rfl ?_
       obtain ⟨ti21, hti21, htz21⟩ := sz69
       refine vco_hst (g := g) (o := 5) (.inr rfl) rfl hg21b rfl (by show 5 + 1 ≤ 9; omega) hti21 htz21 rfl rfl rfl rfl ?_
       have hg21 : ins H21b g { (⟨[.int .i64 ((slc p.lp.rel p.c1 (i + 1) : Nat) : Int), .int .i64 0, .slice Ap n cp, .slice Am n cm, .slice none 0 0, .slice As i cs, .slice none 0 0, .slice none 0 0, .slice none 0 0], 9, 96, true⟩ : Ent) with xs := splice [.int .i64 ((slc p.lp.rel p.c1 (i + 1) : Nat) : Int), .int .i64 0, .slice Ap n cp, .slice Am n cm, .slice none 0 0, .slice As i cs, .slice none 0 0, .slice none 0 0, .slice none 0 0] 5 [.slice A21 (i + 1) c21] } g = some ⟨[.int .i64 ((slc p.lp.rel p.c1 (i + 1) : Nat) : Int), .int .i64 0, .slice Ap n cp, .slice Am n cm, .slice none 0 0, .slice A21 (i + 1) c21, .slice none 0 0, .slice none 0 0, .slice none 0 0], 9, 96, true⟩ := by rw [ins_same]; rfl
       have hG21 : Grew (rem H8 [gk, g]) (.slice As i cs) 72 3 (i + 1) (ys ++ cellsL [N3 (1) 1 none]) (.slice A21 (i + 1) c21) (rem (ins H21b g { (⟨[.int .i64 ((slc p.lp.rel p.c1 (i + 1) : Nat) : Int), .int .i64 0, .slice Ap n cp, .slice Am n cm, .slice none 0 0, .slice As i cs, .slice none 0 0, .slice none 0 0, .slice none 0 0], 9, 96, true⟩ : Ent) with xs := splice [.int .i64 ((slc p.lp.rel p.c1 (i + 1) : Nat) : Int), .int .i64 0, .slice Ap n cp, .slice Am n cm, .slice none 0 0, .slice As i cs, .slice none 0 0, .slice none 0 0, .slice none 0 0] 5 [.slice A21 (i + 1) c21] }) [gk, g]) := by rw [rem_ins_in _ (List.mem_cons_of_mem _ (List.mem_singleton.2 rfl))]; exact hgr21.1
       have hs21 : ∀ q, q ∈ [gk, g] → q ≠ g → ins H21b g { (⟨[.int .i64 ((slc p.lp.rel p.c1 (i + 1) : Nat) : Int), .int .i64 0, .slice Ap n cp, .slice Am n cm, .slice none 0 0, .slice As i cs, .slice none 0 0, .slice none 0 0, .slice none 0 0], 9, 96, true⟩ : Ent) with xs := splice [.int .i64 ((slc p.lp.rel p.c1 (i + 1) : Nat) : Int), .int .i64 0, .slice Ap n cp, .slice Am n cm, .slice none 0 0, .slice As i cs, .slice none 0 0, .slice none 0 0, .slice none 0 0] 5 [.slice A21 (i + 1) c21] } q = H8 q := fun q hq hn => by rw [ins_other _ _ hn, hgr21.2 q hq]
       generalize ins H21b g { (⟨[.int .i64 ((slc p.lp.rel p.c1 (i + 1) : Nat) : Int), .int .i64 0, .slice Ap n cp, .slice Am n cm, .slice none 0 0, .slice As i cs, .slice none 0 0, .slice none 0 0, .slice none 0 0], 9, 96, true⟩ : Ent) with xs := splice [.int .i64 ((slc p.lp.rel p.c1 (i + 1) : Nat) : Int), .int .i64 0, .slice Ap n cp, .slice Am n cm, .slice none 0 0, .slice As i cs, .slice none 0 0, .slice none 0 0, .slice none 0 0] 5 [.slice A21 (i + 1) c21] } = H21 at hg21 hG21 hs21 ⊢
       refine vco_end ?_
       refine vc_keep [1, 3, 4, 7, 63, 64, 65] rfl ?_
       refine vc_region rfl ?_
       refine vco_add rfl rfl ⟨by omega, by omega⟩ ?_
       refine vco_run tbOk 1 rfl ?_
       refine vco_end ?_
       exact ⟨i + 1, _, ys ++ cellsL [N3 (1) 1 none], by omega, sub_auto, cell_le hG21.le hv8, hg21, by rw [hs21 gk (List.mem_cons_self ..) hgkg]; exact hgk8, hle8.trans hG21.le, hG21.own, fun K => by rw [vals_snoc]; exact (hys4 K).append (els_one (by rw [hsgv]; exact numV_int K (n := 1) (by decide) (by decide)) rfl), hG21.blk (hle3.trans hle8) hbk4, by omega⟩
     ·
      have hsgv : (p.sgN i : Rat) = ((1 : Int) : Rat) := by show ((sgi (p.lp.b i) (p.lp.rel i) : Int) : Rat) = _; rw [hbq, hrel]; unfold sgi; rw [if_neg (by grind)]
      refine vc_sr ?_
      refine vco_run tbOk 1 rfl ?_
      refine vco_cmp false rfl rfl (clt_f (sgn_ge.2 (by grind))) ?_
      refine vco_run tbOk 2 rfl ?_
      refine vco_cmp false rfl rfl (ceq_f (fun e => hze (sgn_eq.1 e))) ?_
      refine vco_run tbOk 6 rfl ?_
      refine vco_k [1, 3, 4, 7, 63, 64, 65, 95] ?_
      refine vc_cond_f rfl ?_
      refine vc_draw .drawH [0, 1, 2, 3, 4, 5, 6, 7, 8, 9, 10] follows (by kernel_rfl) ?_
      have hcv21 : cell H8 ⟨gv, 0, none⟩ = some (.pointer (some ⟨g, 0, none⟩)) := cell_le (rem_le _ _) hv8
      have hcF21 : cell H8 ⟨g, 5, none⟩ = some (.slice As i cs) := by simp [cell, hg8]
      refine vco_hload tbOk rfl rfl rfl hcv21 ?_
      refine vco_hload tbOk rfl rfl rfl hcv21 ?_
      refine vco_run tbOk 1 rfl ?_
      refine vco_hfld tbOk rfl rfl rfl ?_
      refine vco_hload tbOk rfl rfl rfl hcF21 ?_
      refine vco_callM rfl rfl swhole_ok (fun _ _ h => by first | exact h.le | exact h.1) ?_
      rintro _ _ ⟨e21, rfl⟩
      rw [e21]
      refine vco_build Tryz.underlying69 el72 rfl rfl rfl rfl rfl rfl rfl ?_
      intro gb21 hgb21
      refine vco_append Tryz.underlying69 el72 rfl rfl (hsv8.lift.1.ins _ hgb21) (rd_ins _ _ _ _ _ _) rfl (by decide) (by omega) (by omega) ?_
      intro v21 H21b ha21
      obtain ⟨A21, c21, rfl⟩ := ha21.own.form
      have hgr21 := grew (gs := [gk, g]) hne8 hgb21 hsv8 ha21
      have hg21b : H21b g = some ⟨[.int .i64 ((slc p.lp.rel p.c1 (i + 1) : Nat) : Int), .int .i64 0, .slice Ap n cp, .slice Am n cm, .slice none 0 0, .slice As i cs, .slice none 0 0, .slice none 0 0, .slice none 0 0], 9, 96, true⟩ := by rw [hgr21.2 g (List.mem_cons_of_mem _ (List.mem_singleton.2 rfl))]; exact hg8
      refine vco_run tbOk 1 rfl ?_
      refine vco_hfld tbOk rfl rfl rfl ?_
      obtain ⟨ti21, hti21, htz21⟩ := sz69
      refine vco_hst (g := g) (o := 5) (.inr rfl) rfl hg21b rfl (by show 5 + 1 ≤ 9; omega) hti21 htz21 rfl rfl rfl rfl ?_
      have hg21 : ins H21b g { (⟨[.int .i64 ((slc p.lp.rel p.c1 (i + 1) : Nat) : Int), .int .i64 0, .slice Ap n cp, .slice Am n cm, .slice none 0 0, .slice As i cs, .slice none 0 0, .slice none 0 0, .slice none 0 0], 9, 96, true⟩ : Ent) with xs := splice [.int .i64 ((slc p.lp.rel p.c1 (i + 1) : Nat) : Int), .int .i64 0, .slice Ap n cp, .slice Am n cm, .slice none 0 0, .slice As i cs, .slice none 0 0, .slice none 0 0, .slice none 0 0] 5 [.slice A21 (i + 1) c21] } g = some ⟨[.int .i64 ((slc p.lp.rel p.c1 (i + 1) : Nat) : Int), .int .i64 0, .slice Ap n cp, .slice Am n cm, .slice none 0 0, .slice A21 (i + 1) c21, .slice none 0 0, .slice none 0 0, .slice none 0 0], 9, 96, true⟩ := by rw [ins_same]; rfl
      have hG21 : Grew (rem H8 [gk, g]) (.slice As i cs) 72 3 (i + 1) (ys ++ cellsL [N3 (1) 1 none]) (.slice A21 (i + 1) c21) (rem (ins H21b g { (⟨[.int .i64 ((slc p.lp.rel p.c1 (i + 1) : Nat) : Int), .int .i64 0, .slice Ap n cp, .slice Am n cm, .slice none 0 0, .slice As i cs, .slice none 0 0, .slice none 0 0, .slice none 0 0], 9, 96, true⟩ : Ent) with xs := splice [.int .i64 ((slc p.lp.rel p.c1 (i + 1) : Nat) : Int), .int .i64 0, .slice Ap n cp, .slice Am n cm, .slice none 0 0, .slice As i cs, .slice none 0 0, .slice none 0 0, .slice none 0 0] 5 [.slice A21 (i + 1) c21] }) [gk, g]) := by rw [rem_ins_in _ (List.mem_cons_of_mem _ (List.mem_singleton.2 rfl))]; exact hgr21.1
      have hs21 : ∀ q, q ∈ [gk, g] → q ≠ g → ins H21b g { (⟨[.int .i64 ((slc p.lp.rel p.c1 (i + 1) : Nat) : Int), .int .i64 0, .slice Ap n cp, .slice Am n cm, .slice none 0 0, .slice As i cs, .slice none 0 0, .slice none 0 0, .slice none 0 0], 9, 96, true⟩ : Ent) with xs := splice [.int .i64 ((slc p.lp.rel p.c1 (i + 1) : Nat) : Int), .int .i64 0, .slice Ap n cp, .slice Am n cm, .slice none 0 0, .slice As i cs, .slice none 0 0, .slice none 0 0, .slice none 0 0] 5 [.slice A21 (i + 1) c21] } q = H8 q := fun q hq hn => by rw [ins_other _ _ hn, hgr21.2 q hq]
      generalize ins H21b g { (⟨[.int .i64 ((slc p.lp.rel p.c1 (i + 1) : Nat) : Int), .int .i64 0, .slice Ap n cp, .slice Am n cm, .slice none 0 0, .slice As i cs, .slice none 0 0, .slice none 0 0, .slice none 0 0], 9, 96, true⟩ : Ent) with xs := splice [.int .i64 ((slc p.lp.rel p.c1 (i + 1) : Nat) : Int), .int .i64 0, .slice Ap n cp, .slice Am n cm, .slice none 0 0, .slice As i cs, .slice none 0 0, .slice none 0 0, .slice none 0 0] 5 [.slice A21 (i + 1) c21] } = H21 at hg21 hG21 hs21 ⊢
      refine vco_end ?_
      refine vc_keep [1, 3, 4, 7, 63, 64, 65] rfl ?_
      refine vc_region rfl ?_
      refine vco_add rfl rfl ⟨by omega, by omega⟩ ?_
      refine vco_run tbOk 1 rfl ?_
      refine vco_end ?_
      exact ⟨i + 1, _, ys ++ cellsL [N3 (1) 1 none], by omega, sub_auto, cell_le hG21.le hv8, hg21, by rw [hs21 gk (List.mem_cons_self ..) hgkg]; exact hgk8, hle8.trans hG21.le, hG21.own, fun K => by rw [vals_snoc]; exact (hys4 K).append (els_one (by rw [hsgv]; exact numV_int K (n := 1) (by decide) (by decide)) rfl), hG21.blk (hle3.trans hle8) hbk4, by omega⟩
  ·
   have hb : m ≤ i := by simpa using hb
   obtain rfl : m = i := by omega
   refine vc_exit ?_
   refine vc_keep [1, 3, 4, 7] rfl ?_
   refine vc_sd .drawH [0, 1, 2, 3, 4, 5, 6, 7] follows (by kernel_rfl) ?_
   have hcv23 : cell H4 ⟨gv, 0, none⟩ = some (.pointer (some ⟨g, 0, none⟩)) := cell_le (rem_le _ _) hv4
   refine vco_hload tbOk rfl rfl rfl hcv23 ?_
   refine vco_hload tbOk rfl rfl rfl hcv23 ?_
   refine vco_run tbOk 1 rfl ?_
   refine vco_hfld tbOk rfl rfl rfl ?_
   refine vco_hload tbOk rfl rfl rfl (show cell H4 ((⟨g, 0, none⟩ : Addr).add 0) = some (.int .i64 ((slc p.lp.rel p.c1 m : Nat) : Int)) by simp [cell, Addr.add, hg4]) ?_
   refine vco_run tbOk 1 rfl ?_
   refine vco_hfld tbOk rfl rfl rfl ?_
   obtain ⟨ti23, hti23, htz23⟩ := sz3
   refine vco_hst (g := g) (o := 1) (.inr rfl) rfl hg4 rfl (by show 1 + 1 ≤ 9; omega) hti23 htz23 rfl rfl rfl rfl ?_
   have hu : p.u = slc p.lp.rel p.c1 m := by rw [hm]; rfl
   have hg11 : ins H4 g { (⟨[.int .i64 ((slc p.lp.rel p.c1 m : Nat) : Int), .int .i64 0, .slice Ap n cp, .slice Am n cm, .slice none 0 0, .slice As m cs, .slice none 0 0, .slice none 0 0, .slice none 0 0], 9, 96, true⟩ : Ent) with xs := splice [.int .i64 ((slc p.lp.rel p.c1 m : Nat) : Int), .int .i64 0, .slice Ap n cp, .slice Am n cm, .slice none 0 0, .slice As m cs, .slice none 0 0, .slice none 0 0, .slice none 0 0] 1 [.int .i64 ((slc p.lp.rel p.c1 m : Nat) : Int)] } g = some ⟨[.int .i64 ((unc p.lp.rel p.sgN p.u 0 : Nat) : Int), .int .i64 ((p.u : Nat) : Int), .slice Ap n cp, .slice Am n cm, .slice none 0 0, .slice As m cs, .slice none 0 0, .slice none 0 0, .slice none 0 0], 9, 96, true⟩ := by
    rw [ins_same]
    show _ = some (⟨[.int .i64 ((p.u : Nat) : Int), .int .i64 ((p.u : Nat) : Int), .slice Ap n cp, .slice Am n cm, .slice none 0 0, .slice As m cs, .slice none 0 0, .slice none 0 0, .slice none 0 0], 9, 96, true⟩ : Ent)
    rw [hu]; rfl
   have hgk11 : ins H4 g { (⟨[.int .i64 ((slc p.lp.rel p.c1 m : Nat) : Int), .int .i64 0, .slice Ap n cp, .slice Am n cm, .slice none 0 0, .slice As m cs, .slice none 0 0, .slice none 0 0, .slice none 0 0], 9, 96, true⟩ : Ent) with xs := splice [.int .i64 ((slc p.lp.rel p.c1 m : Nat) : Int), .int .i64 0, .slice Ap n cp, .slice Am n cm, .slice none 0 0, .slice As m cs, .slice none 0 0, .slice none 0 0, .slice none 0 0] 1 [.int .i64 ((slc p.lp.rel p.c1 m : Nat) : Int)] } gk = some ⟨(ints (fun j => if j < m then slz p.lp.rel p.c1 j else 0) m), m * 1, 3, true⟩ := by rw [ins_other _ _ hgkg]; exact hgk4
   have hr11 : rem (ins H4 g { (⟨[.int .i64 ((slc p.lp.rel p.c1 m : Nat) : Int), .int .i64 0, .slice Ap n cp, .slice Am n cm, .slice none 0 0, .slice As m cs, .slice none 0 0, .slice none 0 0, .slice none 0 0], 9, 96, true⟩ : Ent) with xs := splice [.int .i64 ((slc p.lp.rel p.c1 m : Nat) : Int), .int .i64 0, .slice Ap n cp, .slice Am n cm, .slice none 0 0, .slice As m cs, .slice none 0 0, .slice none 0 0, .slice none 0 0] 1 [.int .i64 ((slc p.lp.rel p.c1 m : Nat) : Int)] }) [gk, g] = rem H4 [gk, g] := rem_ins_in _ (List.mem_cons_of_mem _ (List.mem_singleton.2 rfl))
   generalize ins H4 g { (⟨[.int .i64 ((slc p.lp.rel p.c1 m : Nat) : Int), .int .i64 0, .slice Ap n cp, .slice Am n cm, .slice none 0 0, .slice As m cs, .slice none 0 0, .slice none 0 0, .slice none 0 0], 9, 96, true⟩ : Ent) with xs := splice [.int .i64 ((slc p.lp.rel p.c1 m : Nat) : Int), .int .i64 0, .slice Ap n cp, .slice Am n cm, .slice none 0 0, .slice As m cs, .slice none 0 0, .slice none 0 0, .slice none 0 0] 1 [.int .i64 ((slc p.lp.rel p.c1 m : Nat) : Int)] } = H11 at hg11 hgk11 hr11 ⊢
   have hv11 : cell (rem H11 [gk, g]) ⟨gv, 0, none⟩ = some (.pointer (some ⟨g, 0, none⟩)) := by rw [hr11]; exact hv4
   have hsv11 : Own (rem H11 [gk, g]) (.slice As m cs) 72 3 m ys := by rw [hr11]; exact hsv4
   have hleH : Heap.le H (rem H11 [gk, g]) := by rw [hr11]; exact hle3.trans hle4
   have hpv11 : Heap.le (rem H3 [gk, g]) (rem H11 [gk, g]) := by rw [hr11]; exact hle4
   have hucl : p.u ≤ 2 * n + m := by have := slc_le p.lp.rel p.c1 m; omega
   refine vco_k [1, 3, 4, 7] ?_
   refine vc_seq ?_
   refine vc_sr ?_
   refine vco_run tbOk 4 rfl ?_
   refine vco_k [1, 3, 4, 7, 125, 126, 127] ?_
   refine vc_block ?_
   refine vc_loop2 (fun (i : Nat) (uv : Value) => m - i) (fun (i : Nat) (uv : Value) => put (put (put (put (put (put (put (emp) 1 (.box [.slice Af n cf, .slice Ar m cr])) 3 (.val (.pointer (some ⟨gv, 0, none⟩)))) 4 (.val (.func (.func 102) #[] #[.pointer (some ⟨gv, 0, none⟩)]))) 7 (.val (.slice (some ⟨gk, 0, none⟩) m m))) 125 (.val (.slice Ar m cr))) 126 (.val (.int .i64 (m : Int)))) 127 (.val (.int .i64 (i : Int)))) (fun (i : Nat) (uv : Value) H' => cell (rem H' [gk, g]) ⟨gv, 0, none⟩ = some (.pointer (some ⟨g, 0, none⟩)) ∧ H' g = some ⟨[.int .i64 ((unc p.lp.rel p.sgN p.u i : Nat) : Int), .int .i64 ((p.u : Nat) : Int), .slice Ap n cp, .slice Am n cm, uv, .slice As m cs, .slice none 0 0, .slice none 0 0, .slice none 0 0], 9, 96, true⟩ ∧ H' gk = some ⟨(ints (fun j => if j < m then slz p.lp.rel p.c1 j else 0) m), m * 1, 3, true⟩ ∧ Heap.le (rem H11 [gk, g]) (rem H' [gk, g]) ∧ Own (rem H' [gk, g]) uv 3 1 i (ints (fun j => (p.unit j : Int)) i) ∧ (∀ q, q ∈ blk uv → H q = none) ∧ i ≤ m) 0 (.slice none 0 0) (⟨hv11, hg11, hgk11, .refl _, own_nil _ _ _, (fun q hq => by cases hq), Nat.zero_le _⟩) sub_auto ?_
   rintro i uv H12 ⟨hv12, hg12, hgk12, hle12, huv12, hbk12, hi12⟩
   obtain ⟨Au, cu, rfl⟩ := huv12.form
   have hne12 : ∀ q, q ∈ [gk, g] → H12 q ≠ none := (fun q hq => by rcases List.mem_cons.1 hq with e | e; (rw [e, hgk12]; simp); (rw [List.mem_singleton.1 e, hg12]; simp))
   have hunl := unc_le p.lp.rel p.sgN p.u i
   refine vc_sr ?_
   refine vco_run tbOk 1 rfl ?_
   refine vco_k [1, 3, 4, 7, 125, 126, 127, 128] ?_
   refine vc_seq ?_
   refine vc_cond rfl (fun hb => ?_) (fun hb => ?_)
   ·
    have him : i < m := by simpa using hb
    obtain ⟨r, hr⟩ : ∃ r, p.rows[i]? = some r := ⟨_, List.getElem?_eq_getElem (by omega)⟩
    obtain ⟨A0, c0, f, A1, m1, c1, A2, m2, c2, hrp, hrx⟩ := hxR i r hr
    have hrel : p.lp.rel i = r.2.1 := by show (p.row i).2.1 = _; rw [Prg.row_get hr]
    obtain ⟨qs, cq, hsE, hqs⟩ := own_slot hsv11 (by omega)
    obtain ⟨rfl, rfl⟩ : As = some ⟨qs, 0, none⟩ ∧ cs = cq := by simpa using hsE
    have hrs12 : Rd H12 (some ⟨qs, 0, none⟩) ys := ((hsv11.rd).le hle12).le (rem_le _ _)
    have hcv12 : cell H12 ⟨gv, 0, none⟩ = some (.pointer (some ⟨g, 0, none⟩)) := cell_le (rem_le _ _) hv12
    have hl5 : cell H12 ((⟨g, 0, none⟩ : Addr).add 5) = some (.slice (some ⟨qs, 0, none⟩) m cs) := by simp [cell, addr0, hg12]
    have hsgo := sgi_or (p.lp.b i) (p.lp.rel i)
    have hsgo : p.sgN i = 1 ∨ p.sgN i = -1 := hsgo
    refine vc_skip ?_
    refine vc_keep [1, 3, 4, 7, 125, 126, 127] rfl ?_
    refine vc_seq ?_
    refine vc_block ?_
    refine vc_sr ?_
    refine vco_run tbOk 1 rfl ?_
    refine vco_at_st (vs := [.slice A0 r.1.length c0, .int .i64 r.2.1, .bool f, .slice A1 m1 c1, .slice A2 m2 c2]) tbOk rfl rfl rfl rfl (((hrR.le hleH).le hle12).le (rem_le _ _)) rfl (by decide) hrx (by omega) (by omega) fun _ => ?_
    refine vco_alloc el46 rfl ?_
    refine vco_run tbOk 1 rfl ?_
    obtain ⟨ti, hti, htz⟩ := sz46; refine vco_bstore (.inl ⟨rfl, rfl⟩) rfl rfl rfl hti htz rfl rfl rfl ?_
    refine vco_k [1, 3, 4, 7, 11, 12, 125, 126, 127] ?_
    by_cases h1 : r.2.1 = 1
    ·
     rcases hsgo with hs1 | hs1
     skip
     ·
      have hown : ownB (p.lp.rel i) (p.sgN i) = true := by rw [hrel]; unfold ownB; rw [decide_eq_true_eq]; omega
      refine vc_sr ?_
      refine vco_run tbOk 2 rfl ?_
      refine vco_cmp true rfl rfl (ceq_t h1) ?_
      refine vco_run tbOk 1 rfl ?_
      refine vco_hload tbOk rfl rfl rfl (hcv12) ?_
      refine vco_run tbOk 1 rfl ?_
      refine vco_hfld tbOk rfl rfl rfl ?_
      refine vco_hload tbOk rfl rfl rfl (hl5) ?_
      refine vco_run tbOk 1 rfl ?_
      refine vco_index tbOk rfl rfl rfl (by omega) (by omega) ?_
      refine vco_hfld tbOk rfl rfl rfl ?_
      refine vco_hload tbOk rfl rfl rfl (by have h9 := (hrs12 _ _ (sign_cell hys4 him)); obtain ⟨ad9, h10, h11⟩ := h9; cases h10; rw [Int.toNat_natCast]; exact h11) ?_
      refine vco_cmp true rfl rfl (cgt_t (by omega)) ?_
      refine vco_run tbOk 17 rfl ?_
      refine vco_k [1, 3, 4, 7, 11, 125, 126, 127, 161] ?_
      refine vc_cond_t rfl ?_
      refine vc_draw .drawH [0, 1, 2, 3, 4, 5, 6, 7, 8, 9, 10, 11, 12, 13] follows (by kernel_rfl) ?_
      have hcv28 : cell H12 ⟨gv, 0, none⟩ = some (.pointer (some ⟨g, 0, none⟩)) := cell_le (rem_le _ _) hv12
      have hcF28 : cell H12 ⟨g, 4, none⟩ = some (.slice Au i cu) := by simp [cell, hg12]
      refine vco_hload tbOk rfl rfl rfl hcv28 ?_
      refine vco_hload tbOk rfl rfl rfl hcv28 ?_
      refine vco_run tbOk 1 rfl ?_
      refine vco_hfld tbOk rfl rfl rfl ?_
      refine vco_hload tbOk rfl rfl rfl hcF28 ?_
      refine vco_run tbOk 2 rfl ?_
      refine vco_at tbOk rfl rfl rfl rfl rfl (rd_at hgk12) (show (ints (fun j => if j < m then slz p.lp.rel p.c1 j else 0) m)[((i : Int)).toNat]? = some (.int .i64 (slz p.lp.rel p.c1 i)) from by rw [Int.toNat_natCast, ints_get him, if_pos him]) (by omega) (by omega) fun _ => ?_
      refine vco_build Tryz.underlying93 el3 rfl rfl rfl rfl rfl rfl rfl ?_
      intro gb28 hgb28
      refine vco_append Tryz.underlying93 el3 rfl rfl (huv12.lift.1.ins _ hgb28) (rd_ins _ _ _ _ _ _) rfl (one_int _) (by omega) (by omega) ?_
      intro v28 H28b ha28
      obtain ⟨A28, c28, rfl⟩ := ha28.own.form
      have hgr28 := grew (gs := [gk, g]) hne12 hgb28 huv12 ha28
      have hg28b : H28b g = some ⟨[.int .i64 ((unc p.lp.rel p.sgN p.u i : Nat) : Int), .int .i64 ((p.u : Nat) : Int), .slice Ap n cp, .slice Am n cm, .slice Au i cu, .slice (some ⟨qs, 0, none⟩) m cs, .slice none 0 0, .slice none 0 0, .slice none 0 0], 9, 96, true⟩ := by rw [hgr28.2 g (List.mem_cons_of_mem _ (List.mem_singleton.2 rfl))]; exact hg12
      refine vco_run tbOk 1 rfl ?_
      refine vco_hfld tbOk rfl rfl rfl ?_
      obtain ⟨ti28, hti28, htz28⟩ := sz93
      refine vco_hst (g := g) (o := 4) (.inr rfl) rfl hg28b rfl (by show 4 + 1 ≤ 9; omega) hti28 htz28 rfl rfl rfl rfl ?_
      have hg28 : ins H28b g { (⟨[.int .i64 ((unc p.lp.rel p.sgN p.u i : Nat) : Int), .int .i64 ((p.u : Nat) : Int), .slice Ap n cp, .slice Am n cm, .slice Au i cu, .slice (some ⟨qs, 0, none⟩) m cs, .slice none 0 0, .slice none 0 0, .slice none 0 0], 9, 96, true⟩ : Ent) with xs := splice [.int .i64 ((unc p.lp.rel p.sgN p.u i : Nat) : Int), .int .i64 ((p.u : Nat) : Int), .slice Ap n cp, .slice Am n cm, .slice Au i cu, .slice (some ⟨qs, 0, none⟩) m cs, .slice none 0 0, .slice none 0 0, .slice none 0 0] 4 [.slice A28 (i + 1) c28] } g = some ⟨[.int .i64 ((unc p.lp.rel p.sgN p.u i : Nat) : Int), .int .i64 ((p.u : Nat) : Int), .slice Ap n cp, .slice Am n cm, .slice A28 (i + 1) c28, .slice (some ⟨qs, 0, none⟩) m cs, .slice none 0 0, .slice none 0 0, .slice none 0 0], 9, 96, true⟩ := by rw [ins_same]; rfl
      have hG28 : Grew (rem H12 [gk, g]) (.slice Au i cu) 3 1 (i + 1) (ints (fun j => (p.unit j : Int)) i ++ [.int .i64 (slz p.lp.rel p.c1 i)]) (.slice A28 (i + 1) c28) (rem (ins H28b g { (⟨[.int .i64 ((unc p.lp.rel p.sgN p.u i : Nat) : Int), .int .i64 ((p.u : Nat) : Int), .slice Ap n cp, .slice Am n cm, .slice Au i cu, .slice (some ⟨qs, 0, none⟩) m cs, .slice none 0 0, .slice none 0 0, .slice none 0 0], 9, 96, true⟩ : Ent) with xs := splice [.int .i64 ((unc p.lp.rel p.sgN p.u i : Nat) : Int), .int .i64 ((p.u : Nat) : Int), .slice Ap n cp, .slice Am n cm, .slice Au i cu, .slice (some ⟨qs, 0, none⟩) m cs, .slice none 0 0, .slice none 0 0, .slice none 0 0] 4 [.slice A28 (i + 1) c28] }) [gk, g]) := by rw [rem_ins_in _ (List.mem_cons_of_mem _ (List.mem_singleton.2 rfl))]; exact hgr28.1
      have hs28 : ∀ q, q ∈ [gk, g] → q ≠ g → ins H28b g { (⟨[.int .i64 ((unc p.lp.rel p.sgN p.u i : Nat) : Int), .int .i64 ((p.u : Nat) : Int), .slice Ap n cp, .slice Am n cm, .slice Au i cu, .slice (some ⟨qs, 0, none⟩) m cs, .slice none 0 0, .slice none 0 0, .slice none 0 0], 9, 96, true⟩ : Ent) with xs := splice [.int .i64 ((unc p.lp.rel p.sgN p.u i : Nat) : Int), .int .i64 ((p.u : Nat) : Int), .slice Ap n cp, .slice Am n cm, .slice Au i cu, .slice (some ⟨qs, 0, none⟩) m cs, .slice none 0 0, .slice none 0 0, .slice none 0 0] 4 [.slice A28 (i + 1) c28] } q = H12 q := fun q hq hn => by rw [ins_other _ _ hn, hgr28.2 q hq]
      generalize ins H28b g { (⟨[.int .i64 ((unc p.lp.rel p.sgN p.u i : Nat) : Int), .int .i64 ((p.u : Nat) : Int), .slice Ap n cp, .slice Am n cm, .slice Au i cu, .slice (some ⟨qs, 0, none⟩) m cs, .slice none 0 0, .slice none 0 0, .slice none 0 0], 9, 96, true⟩ : Ent) with xs := splice [.int .i64 ((unc p.lp.rel p.sgN p.u i : Nat) : Int), .int .i64 ((p.u : Nat) : Int), .slice Ap n cp, .slice Am n cm, .slice Au i cu, .slice (some ⟨qs, 0, none⟩) m cs, .slice none 0 0, .slice none 0 0, .slice none 0 0] 4 [.slice A28 (i + 1) c28] } = H28 at hg28 hG28 hs28 ⊢
      refine vco_end ?_
      refine vc_keep [1, 3, 4, 7, 125, 126, 127] rfl ?_
      refine vc_region rfl ?_
      refine vco_add rfl rfl ⟨by omega, by omega⟩ ?_
      refine vco_run tbOk 1 rfl ?_
      refine vco_end ?_
      exact ⟨i + 1, _, by omega, sub_auto, cell_le hG28.le hv12, by rw [hg28, unc_own hown], by rw [hs28 gk (List.mem_cons_self ..) hgkg]; exact hgk12, hle12.trans hG28.le, by rw [ints_succ, ← unt_own hown]; exact hG28.own, hG28.blk (hleH.trans hle12) hbk12, by omega⟩
     ·
      have hown : ownB (p.lp.rel i) (p.sgN i) = false := by rw [hrel]; unfold ownB; rw [decide_eq_false_iff_not]; omega
      refine vc_sr ?_
      refine vco_run tbOk 2 rfl ?_
      refine vco_cmp true rfl rfl (ceq_t h1) ?_
      refine vco_run tbOk 1 rfl ?_
      refine vco_hload tbOk rfl rfl rfl (hcv12) ?_
      refine vco_run tbOk 1 rfl ?_
      refine vco_hfld tbOk rfl rfl rfl ?_
      refine vco_hload tbOk rfl rfl rfl (hl5) ?_
      refine vco_run tbOk 1 rfl ?_
      refine vco_index tbOk rfl rfl rfl (by omega) (by omega) ?_
      refine vco_hfld tbOk rfl rfl rfl ?_
      refine vco_hload tbOk rfl rfl rfl (by have h9 := (hrs12 _ _ (sign_cell hys4 him)); obtain ⟨ad9, h10, h11⟩ := h9; cases h10; rw [Int.toNat_natCast]; exact h11) ?_
      refine vco_cmp false rfl rfl (cgt_f (by omega)) ?_
      refine vco_run tbOk 4 rfl ?_
      refine vco_cmp false rfl rfl (ceq_f (by omega)) ?_
      refine vco_run tbOk 12 rfl ?_
      refine vco_k [1, 3, 4, 7, 11, 125, 126, 127, 161] ?_
      refine vc_cond_f rfl ?_
      refine vc_draw (.drawK (kc2 ⟨gv, 0, none⟩ (.pointer (some ⟨g, 0, none⟩)) ⟨g, 4, none⟩ (.slice Au i cu))) [0, 1, 2, 3, 4, 5, 6, 7, 8, 9, 10, 11] follows (by kernel_rfl) ?_
      have hcv29 : cell H12 ⟨gv, 0, none⟩ = some (.pointer (some ⟨g, 0, none⟩)) := cell_le (rem_le _ _) hv12
      have hcF29 : cell H12 ⟨g, 4, none⟩ = some (.slice Au i cu) := by simp [cell, hg12]
      have hcov29 := kc2_cov hcv29 hcF29
      refine vck_load hcov29 tbOk rfl rfl rfl kc2_a ?_
      refine vck_load hcov29 tbOk rfl rfl rfl kc2_a ?_
      refine vck_nil hcov29 rfl ?_
      refine vck_fld hcov29 tbOk rfl rfl rfl ?_
      refine vck_load hcov29 tbOk rfl rfl rfl (kc2_b (addr_ne (Ne.symm hgv))) ?_
      refine vck_move hcov29 rfl ?_
      refine vck_callC (cap := [.pointer (some ⟨gv, 0, none⟩)]) (args := []) rfl rfl (column_ok (w := unc p.lp.rel p.sgN p.u i) hcv29 hg12 hgv (by omega)) (fun v H' hp => by obtain ⟨_, rfl⟩ := hp; exact kc2_cov (hcv_ins hcv29 hgv) (by simp [cell, ins])) ?_
      rintro _ _ ⟨rfl, rfl⟩
      refine vck_build1 Tryz.underlying93 el3 rfl rfl ?_
      intro gb29 hgb29
      have hne29 : ∀ q, q ∈ [gk, g] → ins H12 g ⟨[.int .i64 ((unc p.lp.rel p.sgN p.u i + 1 : Nat) : Int), .int .i64 ((p.u : Nat) : Int), .slice Ap n cp, .slice Am n cm, .slice Au i cu, .slice (some ⟨qs, 0, none⟩) m cs, .slice none 0 0, .slice none 0 0, .slice none 0 0], 9, 96, true⟩ q ≠ none := fun q hq => by
       by_cases e : q = g
       · rw [e, ins_same]; simp
       · rw [ins_other _ _ e]; exact hne12 q hq
      have own29 : Own (rem (ins H12 g ⟨[.int .i64 ((unc p.lp.rel p.sgN p.u i + 1 : Nat) : Int), .int .i64 ((p.u : Nat) : Int), .slice Ap n cp, .slice Am n cm, .slice Au i cu, .slice (some ⟨qs, 0, none⟩) m cs, .slice none 0 0, .slice none 0 0, .slice none 0 0], 9, 96, true⟩) [gk, g]) (.slice Au i cu) 3 1 i (ints (fun j => (p.unit j : Int)) i) := by rw [rem_ins_in _ (List.mem_cons_of_mem _ (List.mem_singleton.2 rfl))]; exact huv12
      have hcovb29 := kc2_cov (cell_le (Heap.le_ins (whole [.int .i64 ((unc p.lp.rel p.sgN p.u i : Nat) : Int)] 3) hgb29) (hcv_ins (e := ⟨[.int .i64 ((unc p.lp.rel p.sgN p.u i + 1 : Nat) : Int), .int .i64 ((p.u : Nat) : Int), .slice Ap n cp, .slice Am n cm, .slice Au i cu, .slice (some ⟨qs, 0, none⟩) m cs, .slice none 0 0, .slice none 0 0, .slice none 0 0], 9, 96, true⟩) hcv29 hgv)) (cell_le (Heap.le_ins (whole [.int .i64 ((unc p.lp.rel p.sgN p.u i : Nat) : Int)] 3) hgb29) (show cell (ins H12 g ⟨[.int .i64 ((unc p.lp.rel p.sgN p.u i + 1 : Nat) : Int), .int .i64 ((p.u : Nat) : Int), .slice Ap n cp, .slice Am n cm, .slice Au i cu, .slice (some ⟨qs, 0, none⟩) m cs, .slice none 0 0, .slice none 0 0, .slice none 0 0], 9, 96, true⟩) ⟨g, 4, none⟩ = some (.slice Au i cu) by simp [cell, ins]))
      refine vck_append Tryz.underlying93 el3 rfl rfl (own29.lift.1.ins _ hgb29) (rd_ins _ _ _ _ _ _) rfl (one_int _) (by omega) (by omega) hcovb29 ?_
      intro v29 H29b ha29
      obtain ⟨A29, c29, rfl⟩ := ha29.own.form
      have hgr29 := grew (gs := [gk, g]) hne29 hgb29 own29 ha29
      have hg29b : H29b g = some ⟨[.int .i64 ((unc p.lp.rel p.sgN p.u i + 1 : Nat) : Int), .int .i64 ((p.u : Nat) : Int), .slice Ap n cp, .slice Am n cm, .slice Au i cu, .slice (some ⟨qs, 0, none⟩) m cs, .slice none 0 0, .slice none 0 0, .slice none 0 0], 9, 96, true⟩ := by rw [hgr29.2 g (List.mem_cons_of_mem _ (List.mem_singleton.2 rfl)), ins_same]
      have hcov29d := kc2_cov (show cell H29b ⟨gv, 0, none⟩ = some (.pointer (some ⟨g, 0, none⟩)) from cell_le (rem_le _ [gk, g]) (cell_le hgr29.1.le (by rw [rem_ins_in _ (List.mem_cons_of_mem _ (List.mem_singleton.2 rfl))]; exact hv12))) (show cell H29b ⟨g, 4, none⟩ = some (.slice Au i cu) by simp [cell, hg29b])
      refine vck_nil hcov29d rfl ?_
      refine vck_fld hcov29d tbOk rfl rfl rfl ?_
      obtain ⟨ti29, hti29, htz29⟩ := sz93
      refine vck_hst (g := g) (o := 4) rfl hg29b rfl (by show 4 + 1 ≤ 9; omega) hti29 htz29 rfl rfl rfl rfl ?_
      have hg29 : ins H29b g { (⟨[.int .i64 ((unc p.lp.rel p.sgN p.u i + 1 : Nat) : Int), .int .i64 ((p.u : Nat) : Int), .slice Ap n cp, .slice Am n cm, .slice Au i cu, .slice (some ⟨qs, 0, none⟩) m cs, .slice none 0 0, .slice none 0 0, .slice none 0 0], 9, 96, true⟩ : Ent) with xs := splice [.int .i64 ((unc p.lp.rel p.sgN p.u i + 1 : Nat) : Int), .int .i64 ((p.u : Nat) : Int), .slice Ap n cp, .slice Am n cm, .slice Au i cu, .slice (some ⟨qs, 0, none⟩) m cs, .slice none 0 0, .slice none 0 0, .slice none 0 0] 4 [.slice A29 (i + 1) c29] } g = some ⟨[.int .i64 ((unc p.lp.rel p.sgN p.u i + 1 : Nat) : Int), .int .i64 ((p.u : Nat) : Int), .slice Ap n cp, .slice Am n cm, .slice A29 (i + 1) c29, .slice (some ⟨qs, 0, none⟩) m cs, .slice none 0 0, .slice none 0 0, .slice none 0 0], 9, 96, true⟩ := by rw [ins_same]; rfl
      have hG29 : Grew (rem H12 [gk, g]) (.slice Au i cu) 3 1 (i + 1) (ints (fun j => (p.unit j : Int)) i ++ [.int .i64 ((unc p.lp.rel p.sgN p.u i : Nat) : Int)]) (.slice A29 (i + 1) c29) (rem (ins H29b g { (⟨[.int .i64 ((unc p.lp.rel p.sgN p.u i + 1 : Nat) : Int), .int .i64 ((p.u : Nat) : Int), .slice Ap n cp, .slice Am n cm, .slice Au i cu, .slice (some ⟨qs, 0, none⟩) m cs, .slice none 0 0, .slice none 0 0, .slice none 0 0], 9, 96, true⟩ : Ent) with xs := splice [.int .i64 ((unc p.lp.rel p.sgN p.u i + 1 : Nat) : Int), .int .i64 ((p.u : Nat) : Int), .slice Ap n cp, .slice Am n cm, .slice Au i cu, .slice (some ⟨qs, 0, none⟩) m cs, .slice none 0 0, .slice none 0 0, .slice none 0 0] 4 [.slice A29 (i + 1) c29] }) [gk, g]) := by rw [rem_ins_in _ (List.mem_cons_of_mem _ (List.mem_singleton.2 rfl)), ← rem_ins_in (H := H12) ⟨[.int .i64 ((unc p.lp.rel p.sgN p.u i + 1 : Nat) : Int), .int .i64 ((p.u : Nat) : Int), .slice Ap n cp, .slice Am n cm, .slice Au i cu, .slice (some ⟨qs, 0, none⟩) m cs, .slice none 0 0, .slice none 0 0, .slice none 0 0], 9, 96, true⟩ (List.mem_cons_of_mem _ (List.mem_singleton.2 rfl))]; exact hgr29.1
      have hs29 : ∀ q, q ∈ [gk, g] → q ≠ g → ins H29b g { (⟨[.int .i64 ((unc p.lp.rel p.sgN p.u i + 1 : Nat) : Int), .int .i64 ((p.u : Nat) : Int), .slice Ap n cp, .slice Am n cm, .slice Au i cu, .slice (some ⟨qs, 0, none⟩) m cs, .slice none 0 0, .slice none 0 0, .slice none 0 0], 9, 96, true⟩ : Ent) with xs := splice [.int .i64 ((unc p.lp.rel p.sgN p.u i + 1 : Nat) : Int), .int .i64 ((p.u : Nat) : Int), .slice Ap n cp, .slice Am n cm, .slice Au i cu, .slice (some ⟨qs, 0, none⟩) m cs, .slice none 0 0, .slice none 0 0, .slice none 0 0] 4 [.slice A29 (i + 1) c29] } q = H12 q := fun q hq hn => by rw [ins_other _ _ hn, hgr29.2 q hq, ins_other _ _ hn]
      generalize ins H29b g { (⟨[.int .i64 ((unc p.lp.rel p.sgN p.u i + 1 : Nat) : Int), .int .i64 ((p.u : Nat) : Int), .slice Ap n cp, .slice Am n cm, .slice Au i cu, .slice (some ⟨qs, 0, none⟩) m cs, .slice none 0 0, .slice none 0 0, .slice none 0 0], 9, 96, true⟩ : Ent) with xs := splice [.int .i64 ((unc p.lp.rel p.sgN p.u i + 1 : Nat) : Int), .int .i64 ((p.u : Nat) : Int), .slice Ap n cp, .slice Am n cm, .slice Au i cu, .slice (some ⟨qs, 0, none⟩) m cs, .slice none 0 0, .slice none 0 0, .slice none 0 0] 4 [.slice A29 (i + 1) c29] } = H29 at hg29 hG29 hs29 ⊢
      refine vco_end ?_
      refine vc_keep [1, 3, 4, 7, 125, 126, 127] rfl ?_
      refine vc_region rfl ?_
      refine vco_add rfl rfl ⟨by omega, by omega⟩ ?_
      refine vco_run tbOk 1 rfl ?_
      refine vco_end ?_
      exact ⟨i + 1, _, by omega, sub_auto, cell_le hG29.le hv12, by rw [hg29, unc_new hown], by rw [hs29 gk (List.mem_cons_self ..) hgkg]; exact hgk12, hle12.trans hG29.le, by rw [ints_succ, show ((p.unit i : Nat) : Int) = ((unc p.lp.rel p.sgN p.u i : Nat) : Int) from congrArg (fun k : Nat => (k : Int)) (unt_new hown)]; exact hG29.own, hG29.blk (hleH.trans hle12) hbk12, by omega⟩
    ·
     skip
     by_cases h3 : r.2.1 = 3
     ·
      rcases hsgo with hs1 | hs1
      rotate_left
      ·
       have hown : ownB (p.lp.rel i) (p.sgN i) = true := by rw [hrel]; unfold ownB; rw [decide_eq_true_eq]; omega
       refine vc_sr ?_
       refine vco_run tbOk 2 rfl ?_
       refine vco_cmp false rfl rfl (ceq_f h1) ?_
       refine vco_run tbOk 14 rfl ?_
       refine vco_cmp true rfl rfl (ceq_t h3) ?_
       refine vco_run tbOk 1 rfl ?_
       refine vco_hload tbOk rfl rfl rfl (hcv12) ?_
       refine vco_run tbOk 1 rfl ?_
       refine vco_hfld tbOk rfl rfl rfl ?_
       refine vco_hload tbOk rfl rfl rfl (hl5) ?_
       refine vco_run tbOk 1 rfl ?_
       refine vco_index tbOk rfl rfl rfl (by omega) (by omega) ?_
       refine vco_hfld tbOk rfl rfl rfl ?_
       refine vco_hload tbOk rfl rfl rfl (by have h9 := (hrs12 _ _ (sign_cell hys4 him)); obtain ⟨ad9, h10, h11⟩ := h9; cases h10; rw [Int.toNat_natCast]; exact h11) ?_
       refine vco_cmp true rfl rfl (clt_t (by omega)) ?_
       refine vco_run tbOk 2 rfl ?_
       refine vco_k [1, 3, 4, 7, 11, 125, 126, 127, 161] ?_
       refine vc_cond_t rfl ?_
       refine vc_draw .drawH [0, 1, 2, 3, 4, 5, 6, 7, 8, 9, 10, 11, 12, 13] follows (by kernel_rfl) ?_
       have hcv28 : cell H12 ⟨gv, 0, none⟩ = some (.pointer (some ⟨g, 0, none⟩)) := cell_le (rem_le _ _) hv12
       have hcF28 : cell H12 ⟨g, 4, none⟩ = some (.slice Au i cu) := by simp [cell, hg12]
       refine vco_hload tbOk rfl rfl rfl hcv28 ?_
       refine vco_hload tbOk rfl rfl rfl hcv28 ?_
       refine vco_run tbOk 1 rfl ?_
       refine vco_hfld tbOk rfl rfl rfl ?_
       refine vco_hload tbOk rfl rfl rfl hcF28 ?_
       refine vco_run tbOk 2 rfl ?_
       refine vco_at tbOk rfl rfl rfl rfl rfl (rd_at hgk12) (show (ints (fun j => if j < m then slz p.lp.rel p.c1 j else 0) m)[((i : Int)).toNat]? = some (.int .i64 (slz p.lp.rel p.c1 i)) from by rw [Int.toNat_natCast, ints_get him, if_pos him]) (by omega) (by omega) fun _ => ?_
       refine vco_build Tryz.underlying93 el3 rfl rfl rfl rfl rfl rfl rfl ?_
       intro gb28 hgb28
       refine vco_append Tryz.underlying93 el3 rfl rfl (huv12.lift.1.ins _ hgb28) (rd_ins _ _ _ _ _ _) rfl (one_int _) (by omega) (by omega) ?_
       intro v28 H28b ha28
       obtain ⟨A28, c28, rfl⟩ := ha28.own.form
       have hgr28 := grew (gs := [gk, g]) hne12 hgb28 huv12 ha28
       have hg28b : H28b g = some ⟨[.int .i64 ((unc p.lp.rel p.sgN p.u i : Nat) : Int), .int .i64 ((p.u : Nat) : Int), .slice Ap n cp, .slice Am n cm, .slice Au i cu, .slice (some ⟨qs, 0, none⟩) m cs, .slice none 0 0, .slice none 0 0, .slice none 0 0], 9, 96, true⟩ := by rw [hgr28.2 g (List.mem_cons_of_mem _ (List.mem_singleton.2 rfl))]; exact hg12
       refine vco_run tbOk 1 rfl ?_
       refine vco_hfld tbOk rfl rfl rfl ?_
       obtain ⟨ti28, hti28, htz28⟩ := sz93
       refine vco_hst (g := g) (o := 4) (.inr rfl) rfl hg28b rfl (by show 4 + 1 ≤ 9; omega) hti28 htz28 rfl rfl rfl rfl ?_
       have hg28 : ins H28b g { (⟨[.int .i64 ((unc p.lp.rel p.sgN p.u i : Nat) : Int), .int .i64 ((p.u : Nat) : Int), .slice Ap n cp, .slice Am n cm, .slice Au i cu, .slice (some ⟨qs, 0, none⟩) m cs, .slice none 0 0, .slice none 0 0, .slice none 0 0], 9, 96, true⟩ : Ent) with xs := splice [.int .i64 ((unc p.lp.rel p.sgN p.u i : Nat) : Int), .int .i64 ((p.u : Nat) : Int), .slice Ap n cp, .slice Am n cm, .slice Au i cu, .slice (some ⟨qs, 0, none⟩) m cs, .slice none 0 0, .slice none 0 0, .slice none 0 0] 4 [.slice A28 (i + 1) c28] } g = some ⟨[.int .i64 ((unc p.lp.rel p.sgN p.u i : Nat) : Int), .int .i64 ((p.u : Nat) : Int), .slice Ap n cp, .slice Am n cm, .slice A28 (i + 1) c28, .slice (some ⟨qs, 0, none⟩) m cs, .slice none 0 0, .slice none 0 0, .slice none 0 0], 9, 96, true⟩ := by rw [ins_same]; rfl
       have hG28 : Grew (rem H12 [gk, g]) (.slice Au i cu) 3 1 (i + 1) (ints (fun j => (p.unit j : Int)) i ++ [.int .i64 (slz p.lp.rel p.c1 i)]) (.slice A28 (i + 1) c28) (rem (ins H28b g { (⟨[.int .i64 ((unc p.lp.rel p.sgN p.u i : Nat) : Int), .int .i64 ((p.u : Nat) : Int), .slice Ap n cp, .slice Am n cm, .slice Au i cu, .slice (some ⟨qs, 0, none⟩) m cs, .slice none 0 0, .slice none 0 0, .slice none 0 0], 9, 96, true⟩ : Ent) with xs := splice [.int .i64 ((unc p.lp.rel p.sgN p.u i : Nat) : Int), .int .i64 ((p.u : Nat) : Int), .slice Ap n cp, .slice Am n cm, .slice Au i cu, .slice (some ⟨qs, 0, none⟩) m cs, .slice none 0 0, .slice none 0 0, .slice none 0 0] 4 [.slice A28 (i + 1) c28] }) [gk, g]) := by rw [rem_ins_in _ (List.mem_cons_of_mem _ (List.mem_singleton.2 rfl))]; exact hgr28.1
       have hs28 : ∀ q, q ∈ [gk, g] → q ≠ g → ins H28b g { (⟨[.int .i64 ((unc p.lp.rel p.sgN p.u i : Nat) : Int), .int .i64 ((p.u : Nat) : Int), .slice Ap n cp, .slice Am n cm, .slice Au i cu, .slice (some ⟨qs, 0, none⟩) m cs, .slice none 0 0, .slice none 0 0, .slice none 0 0], 9, 96, true⟩ : Ent) with xs := splice [.int .i64 ((unc p.lp.rel p.sgN p.u i : Nat) : Int), .int .i64 ((p.u : Nat) : Int), .slice Ap n cp, .slice Am n cm, .slice Au i cu, .slice (some ⟨qs, 0, none⟩) m cs, .slice none 0 0, .slice none 0 0, .slice none 0 0] 4 [.slice A28 (i + 1) c28] } q = H12 q := fun q hq hn => by rw [ins_other _ _ hn, hgr28.2 q hq]
       generalize ins H28b g { (⟨[.int .i64 ((unc p.lp.rel p.sgN p.u i : Nat) : Int), .int .i64 ((p.u : Nat) : Int), .slice Ap n cp, .slice Am n cm, .slice Au i cu, .slice (some ⟨qs, 0, none⟩) m cs, .slice none 0 0, .slice none 0 0, .slice none 0 0], 9, 96, true⟩ : Ent) with xs := splice [.int .i64 ((unc p.lp.rel p.sgN p.u i : Nat) : Int), .int .i64 ((p.u : Nat) : Int), .slice Ap n cp, .slice Am n cm, .slice Au i cu, .slice (some ⟨qs, 0, none⟩) m cs, .slice none 0 0, .slice none 0 0, .slice none 0 0] 4 [.slice A28 (i + 1) c28] } = H28 at hg28 hG28 hs28 ⊢
       refine vco_end ?_
       refine vc_keep [1, 3, 4, 7, 125, 126, 127] rfl ?_
       refine vc_region rfl ?_
       refine vco_add rfl rfl ⟨by omega, by omega⟩ ?_
       refine vco_run tbOk 1 rfl ?_
       refine vco_end ?_
       exact ⟨i + 1, _, by omega, sub_auto, cell_le hG28.le hv12, by rw [hg28, unc_own hown], by rw [hs28 gk (List.mem_cons_self ..) hgkg]; exact hgk12, hle12.trans hG28.le, by rw [ints_succ, ← unt_own hown]; exact hG28.own, hG28.blk (hleH.trans hle12) hbk12, by omega⟩
      ·
       have hown : ownB (p.lp.rel i) (p.sgN i) = false := by rw [hrel]; unfold ownB; rw [decide_eq_false_iff_not]; omega
       refine vc_sr ?_
       refine vco_run tbOk 2 rfl ?_
       refine vco_cmp false rfl rfl (ceq_f h1) ?_
       refine vco_run tbOk 14 rfl ?_
       refine vco_cmp true rfl rfl (ceq_t h3) ?_
       refine vco_run tbOk 1 rfl ?_
       refine vco_hload tbOk rfl rfl rfl (hcv12) ?_
       refine vco_run tbOk 1 rfl ?_
       refine vco_hfld tbOk rfl rfl rfl ?_
       refine vco_hload tbOk rfl rfl rfl (hl5) ?_
       refine vco_run tbOk 1 rfl ?_
       refine vco_index tbOk rfl rfl rfl (by omega) (by omega) ?_
       refine vco_hfld tbOk rfl rfl rfl ?_
       refine vco_hload tbOk rfl rfl rfl (by have h9 := (hrs12 _ _ (sign_cell hys4 him)); obtain ⟨ad9, h10, h11⟩ := h9; cases h10; rw [Int.toNat_natCast]; exact h11) ?_
       refine vco_cmp false rfl rfl (clt_f (by omega)) ?_
       refine vco_run tbOk 2 rfl ?_
       refine vco_k [1, 3, 4, 7, 11, 125, 126, 127, 161] ?_
       refine vc_cond_f rfl ?_
       refine vc_draw (.drawK (kc2 ⟨gv, 0, none⟩ (.pointer (some ⟨g, 0, none⟩)) ⟨g, 4, none⟩ (.slice Au i cu))) [0, 1, 2, 3, 4, 5, 6, 7, 8, 9, 10, 11] follows (by kernel_rfl) ?_
       have hcv29 : cell H12 ⟨gv, 0, none⟩ = some (.pointer (some ⟨g, 0, none⟩)) := cell_le (rem_le _ _) hv12
       have hcF29 : cell H12 ⟨g, 4, none⟩ = some (.slice Au i cu) := by simp [cell, hg12]
       have hcov29 := kc2_cov hcv29 hcF29
       refine vck_load hcov29 tbOk rfl rfl rfl kc2_a ?_
       refine vck_load hcov29 tbOk rfl rfl rfl kc2_a ?_
       refine vck_nil hcov29 rfl ?_
       refine vck_fld hcov29 tbOk rfl rfl rfl ?_
       refine vck_load hcov29 tbOk rfl rfl rfl (kc2_b (addr_ne (Ne.symm hgv))) ?_
       refine vck_move hcov29 rfl ?_
       refine vck_callC (cap := [.pointer (some ⟨gv, 0, none⟩)]) (args := []) rfl rfl (column_ok (w := unc p.lp.rel p.sgN p.u i) hcv29 hg12 hgv (by omega)) (fun v H' hp => by obtain ⟨_, rfl⟩ := hp; exact kc2_cov (hcv_ins hcv29 hgv) (by simp [cell, ins])) ?_
       rintro _ _ ⟨rfl, rfl⟩
       refine vck_build1 Tryz.underlying93 el3 rfl rfl ?_
       intro gb29 hgb29
       have hne29 : ∀ q, q ∈ [gk, g] → ins H12 g ⟨[.int .i64 ((unc p.lp.rel p.sgN p.u i + 1 : Nat) : Int), .int .i64 ((p.u : Nat) : Int), .slice Ap n cp, .slice Am n cm, .slice Au i cu, .slice (some ⟨qs, 0, none⟩) m cs, .slice none 0 0, .slice none 0 0, .slice none 0 0], 9, 96, true⟩ q ≠ none := fun q hq => by
        by_cases e : q = g
        · rw [e, ins_same]; simp
        · rw [ins_other _ _ e]; exact hne12 q hq
       have own29 : Own (rem (ins H12 g ⟨[.int .i64 ((unc p.lp.rel p.sgN p.u i + 1 : Nat) : Int), .int .i64 ((p.u : Nat) : Int), .slice Ap n cp, .slice Am n cm, .slice Au i cu, .slice (some ⟨qs, 0, none⟩) m cs, .slice none 0 0, .slice none 0 0, .slice none 0 0], 9, 96, true⟩) [gk, g]) (.slice Au i cu) 3 1 i (ints (fun j => (p.unit j : Int)) i) := by rw [rem_ins_in _ (List.mem_cons_of_mem _ (List.mem_singleton.2 rfl))]; exact huv12
       have hcovb29 := kc2_cov (cell_le (Heap.le_ins (whole [.int .i64 ((unc p.lp.rel p.sgN p.u i : Nat) : Int)] 3) hgb29) (hcv_ins (e := ⟨[.int .i64 ((unc p.lp.rel p.sgN p.u i + 1 : Nat) : Int), .int .i64 ((p.u : Nat) : Int), .slice Ap n cp, .slice Am n cm, .slice Au i cu, .slice (some ⟨qs, 0, none⟩) m cs, .slice none 0 0, .slice none 0 0, .slice none 0 0], 9, 96, true⟩) hcv29 hgv)) (cell_le (Heap.le_ins (whole [.int .i64 ((unc p.lp.rel p.sgN p.u i : Nat) : Int)] 3) hgb29) (show cell (ins H12 g ⟨[.int .i64 ((unc p.lp.rel p.sgN p.u i + 1 : Nat) : Int), .int .i64 ((p.u : Nat) : Int), .slice Ap n cp, .slice Am n cm, .slice Au i cu, .slice (some ⟨qs, 0, none⟩) m cs, .slice none 0 0, .slice none 0 0, .slice none 0 0], 9, 96, true⟩) ⟨g, 4, none⟩ = some (.slice Au i cu) by simp [cell, ins]))
       refine vck_append Tryz.underlying93 el3 rfl rfl (own29.lift.1.ins _ hgb29) (rd_ins _ _ _ _ _ _) rfl (one_int _) (by omega) (by omega) hcovb29 ?_
       intro v29 H29b ha29
       obtain ⟨A29, c29, rfl⟩ := ha29.own.form
       have hgr29 := grew (gs := [gk, g]) hne29 hgb29 own29 ha29
       have hg29b : H29b g = some ⟨[.int .i64 ((unc p.lp.rel p.sgN p.u i + 1 : Nat) : Int), .int .i64 ((p.u : Nat) : Int), .slice Ap n cp, .slice Am n cm, .slice Au i cu, .slice (some ⟨qs, 0, none⟩) m cs, .slice none 0 0, .slice none 0 0, .slice none 0 0], 9, 96, true⟩ := by rw [hgr29.2 g (List.mem_cons_of_mem _ (List.mem_singleton.2 rfl)), ins_same]
       have hcov29d := kc2_cov (show cell H29b ⟨gv, 0, none⟩ = some (.pointer (some ⟨g, 0, none⟩)) from cell_le (rem_le _ [gk, g]) (cell_le hgr29.1.le (by rw [rem_ins_in _ (List.mem_cons_of_mem _ (List.mem_singleton.2 rfl))]; exact hv12))) (show cell H29b ⟨g, 4, none⟩ = some (.slice Au i cu) by simp [cell, hg29b])
       refine vck_nil hcov29d rfl ?_
       refine vck_fld hcov29d tbOk rfl rfl rfl ?_
       obtain ⟨ti29, hti29, htz29⟩ := sz93
       refine vck_hst (g := g) (o := 4) rfl hg29b rfl (by show 4 + 1 ≤ 9; omega) hti29 htz29 rfl rfl rfl rfl ?_
       have hg29 : ins H29b g { (⟨[.int .i64 ((unc p.lp.rel p.sgN p.u i + 1 : Nat) : Int), .int .i64 ((p.u : Nat) : Int), .slice Ap n cp, .slice Am n cm, .slice Au i cu, .slice (some ⟨qs, 0, none⟩) m cs, .slice none 0 0, .slice none 0 0, .slice none 0 0], 9, 96, true⟩ : Ent) with xs := splice [.int .i64 ((unc p.lp.rel p.sgN p.u i + 1 : Nat) : Int), .int .i64 ((p.u : Nat) : Int), .slice Ap n cp, .slice Am n cm, .slice Au i cu, .slice (some ⟨qs, 0, none⟩) m cs, .slice none 0 0, .slice none 0 0, .slice none 0 0] 4 [.slice A29 (i + 1) c29] } g = some ⟨[.int .i64 ((unc p.lp.rel p.sgN p.u i + 1 : Nat) : Int), .int .i64 ((p.u : Nat) : Int), .slice Ap n cp, .slice Am n cm, .slice A29 (i + 1) c29, .slice (some ⟨qs, 0, none⟩) m cs, .slice none 0 0, .slice none 0 0, .slice none 0 0], 9, 96, true⟩ := by rw [ins_same]; rfl
       have hG29 : Grew (rem H12 [gk, g]) (.slice Au i cu) 3 1 (i + 1) (ints (fun j => (p.unit j : Int)) i ++ [.int .i64 ((unc p.lp.rel p.sgN p.u i : Nat) : Int)]) (.slice A29 (i + 1) c29) (rem (ins H29b g { (⟨[.int .i64 ((unc p.lp.rel p.sgN p.u i + 1 : Nat) : Int), .int .i64 ((p.u : Nat) : Int), .slice Ap n cp, .slice Am n cm, .slice Au i cu, .slice (some ⟨qs, 0, none⟩) m cs, .slice none 0 0, .slice none 0 0, .slice none 0 0], 9, 96, true⟩ : Ent) with xs := splice [.int .i64 ((unc p.lp.rel p.sgN p.u i + 1 : Nat) : Int), .int .i64 ((p.u : Nat) : Int), .slice Ap n cp, .slice Am n cm, .slice Au i cu, .slice (some ⟨qs, 0, none⟩) m cs, .slice none 0 0, .slice none 0 0, .slice none 0 0] 4 [.slice A29 (i + 1) c29] }) [gk, g]) := by rw [rem_ins_in _ (List.mem_cons_of_mem _ (List.mem_singleton.2 rfl)), ← rem_ins_in (H := H12) ⟨[.int .i64 ((unc p.lp.rel p.sgN p.u i + 1 : Nat) : Int), .int .i64 ((p.u : Nat) : Int), .slice Ap n cp, .slice Am n cm, .slice Au i cu, .slice (some ⟨qs, 0, none⟩) m cs, .slice none 0 0, .slice none 0 0, .slice none 0 0], 9, 96, true⟩ (List.mem_cons_of_mem _ (List.mem_singleton.2 rfl))]; exact hgr29.1
       have hs29 : ∀ q, q ∈ [gk, g] → q ≠ g → ins H29b g { (⟨[.int .i64 ((unc p.lp.rel p.sgN p.u i + 1 : Nat) : Int), .int .i64 ((p.u : Nat) : Int), .slice Ap n cp, .slice Am n cm, .slice Au i cu, .slice (some ⟨qs, 0, none⟩) m cs, .slice none 0 0, .slice none 0 0, .slice none 0 0], 9, 96, true⟩ : Ent) with xs := splice [.int .i64 ((unc p.lp.rel p.sgN p.u i + 1 : Nat) : Int), .int .i64 ((p.u : Nat) : Int), .slice Ap n cp, .slice Am n cm, .slice Au i cu, .slice (some ⟨qs, 0, none⟩) m cs, .slice none 0 0, .slice none 0 0, .slice none 0 0] 4 [.slice A29 (i + 1) c29] } q = H12 q := fun q hq hn => by rw [ins_other _ _ hn, hgr29.2 q hq, ins_other _ _ hn]
       generalize ins H29b g { (⟨[.int .i64 ((unc p.lp.rel p.sgN p.u i + 1 : Nat) : Int), .int .i64 ((p.u : Nat) : Int), .slice Ap n cp, .slice Am n cm, .slice Au i cu, .slice (some ⟨qs, 0, none⟩) m cs, .slice none 0 0, .slice none 0 0, .slice none 0 0], 9, 96, true⟩ : Ent) with xs := splice [.int .i64 ((unc p.lp.rel p.sgN p.u i + 1 : Nat) : Int), .int .i64 ((p.u : Nat) : Int), .slice Ap n cp, .slice Am n cm, .slice Au i cu, .slice (some ⟨qs, 0, none⟩) m cs, .slice none 0 0, .slice none 0 0, .slice none 0 0] 4 [.slice A29 (i + 1) c29] } = H29 at hg29 hG29 hs29 ⊢
       refine vco_end ?_
       refine vc_keep [1, 3, 4, 7, 125, 126, 127] rfl ?_
       refine vc_region rfl ?_
       refine vco_add rfl rfl ⟨by omega, by omega⟩ ?_
       refine vco_run tbOk 1 rfl ?_
       refine vco_end ?_
       exact ⟨i + 1, _, by omega, sub_auto, cell_le hG29.le hv12, by rw [hg29, unc_new hown], by rw [hs29 gk (List.mem_cons_self ..) hgkg]; exact hgk12, hle12.trans hG29.le, by rw [ints_succ, show ((p.unit i : Nat) : Int) = ((unc p.lp.rel p.sgN p.u i : Nat) : Int) from congrArg (fun k : Nat => (k : Int)) (unt_new hown)]; exact hG29.own, hG29.blk (hleH.trans hle12) hbk12, by omega⟩
     ·
      have hown : ownB (p.lp.rel i) (p.sgN i) = false := by rw [hrel]; unfold ownB; rw [decide_eq_false_iff_not]; omega
      refine vc_sr ?_
      refine vco_run tbOk 2 rfl ?_
      refine vco_cmp false rfl rfl (ceq_f h1) ?_
      refine vco_run tbOk 14 rfl ?_
      refine vco_cmp false rfl rfl (ceq_f h3) ?_
      refine vco_run tbOk 12 rfl ?_
      refine vco_k [1, 3, 4, 7, 11, 125, 126, 127, 161] ?_
      refine vc_cond_f rfl ?_
      refine vc_draw (.drawK (kc2 ⟨gv, 0, none⟩ (.pointer (some ⟨g, 0, none⟩)) ⟨g, 4, none⟩ (.slice Au i cu))) [0, 1, 2, 3, 4, 5, 6, 7, 8, 9, 10, 11] follows (by kernel_rfl) ?_
      have hcv29 : cell H12 ⟨gv, 0, none⟩ = some (.pointer (some ⟨g, 0, none⟩)) := cell_le (rem_le _ _) hv12
      have hcF29 : cell H12 ⟨g, 4, none⟩ = some (.slice Au i cu) := by simp [cell, hg12]
      have hcov29 := kc2_cov hcv29 hcF29
      refine vck_load hcov29 tbOk rfl rfl rfl kc2_a ?_
      refine vck_load hcov29 tbOk rfl rfl rfl kc2_a ?_
      refine vck_nil hcov29 rfl ?_
      refine vck_fld hcov29 tbOk rfl rfl rfl ?_
      refine vck_load hcov29 tbOk rfl rfl rfl (kc2_b (addr_ne (Ne.symm hgv))) ?_
      refine vck_move hcov29 rfl ?_
      refine vck_callC (cap := [.pointer (some ⟨gv, 0, none⟩)]) (args := []) rfl rfl (column_ok (w := unc p.lp.rel p.sgN p.u i) hcv29 hg12 hgv (by omega)) (fun v H' hp => by obtain ⟨_, rfl⟩ := hp; exact kc2_cov (hcv_ins hcv29 hgv) (by simp [cell, ins])) ?_
      rintro _ _ ⟨rfl, rfl⟩
      refine vck_build1 Tryz.underlying93 el3 rfl rfl ?_
      intro gb29 hgb29
      have hne29 : ∀ q, q ∈ [gk, g] → ins H12 g ⟨[.int .i64 ((unc p.lp.rel p.sgN p.u i + 1 : Nat) : Int), .int .i64 ((p.u : Nat) : Int), .slice Ap n cp, .slice Am n cm, .slice Au i cu, .slice (some ⟨qs, 0, none⟩) m cs, .slice none 0 0, .slice none 0 0, .slice none 0 0], 9, 96, true⟩ q ≠ none := fun q hq => by
       by_cases e : q = g
       · rw [e, ins_same]; simp
       · rw [ins_other _ _ e]; exact hne12 q hq
      have own29 : Own (rem (ins H12 g ⟨[.int .i64 ((unc p.lp.rel p.sgN p.u i + 1 : Nat) : Int), .int .i64 ((p.u : Nat) : Int), .slice Ap n cp, .slice Am n cm, .slice Au i cu, .slice (some ⟨qs, 0, none⟩) m cs, .slice none 0 0, .slice none 0 0, .slice none 0 0], 9, 96, true⟩) [gk, g]) (.slice Au i cu) 3 1 i (ints (fun j => (p.unit j : Int)) i) := by rw [rem_ins_in _ (List.mem_cons_of_mem _ (List.mem_singleton.2 rfl))]; exact huv12
      have hcovb29 := kc2_cov (cell_le (Heap.le_ins (whole [.int .i64 ((unc p.lp.rel p.sgN p.u i : Nat) : Int)] 3) hgb29) (hcv_ins (e := ⟨[.int .i64 ((unc p.lp.rel p.sgN p.u i + 1 : Nat) : Int), .int .i64 ((p.u : Nat) : Int), .slice Ap n cp, .slice Am n cm, .slice Au i cu, .slice (some ⟨qs, 0, none⟩) m cs, .slice none 0 0, .slice none 0 0, .slice none 0 0], 9, 96, true⟩) hcv29 hgv)) (cell_le (Heap.le_ins (whole [.int .i64 ((unc p.lp.rel p.sgN p.u i : Nat) : Int)] 3) hgb29) (show cell (ins H12 g ⟨[.int .i64 ((unc p.lp.rel p.sgN p.u i + 1 : Nat) : Int), .int .i64 ((p.u : Nat) : Int), .slice Ap n cp, .slice Am n cm, .slice Au i cu, .slice (some ⟨qs, 0, none⟩) m cs, .slice none 0 0, .slice none 0 0, .slice none 0 0], 9, 96, true⟩) ⟨g, 4, none⟩ = some (.slice Au i cu) by simp [cell, ins]))
      refine vck_append Tryz.underlying93 el3 rfl rfl (own29.lift.1.ins _ hgb29) (rd_ins _ _ _ _ _ _) rfl (one_int _) (by omega) (by omega) hcovb29 ?_
      intro v29 H29b ha29
      obtain ⟨A29, c29, rfl⟩ := ha29.own.form
      have hgr29 := grew (gs := [gk, g]) hne29 hgb29 own29 ha29
      have hg29b : H29b g = some ⟨[.int .i64 ((unc p.lp.rel p.sgN p.u i + 1 : Nat) : Int), .int .i64 ((p.u : Nat) : Int), .slice Ap n cp, .slice Am n cm, .slice Au i cu, .slice (some ⟨qs, 0, none⟩) m cs, .slice none 0 0, .slice none 0 0, .slice none 0 0], 9, 96, true⟩ := by rw [hgr29.2 g (List.mem_cons_of_mem _ (List.mem_singleton.2 rfl)), ins_same]
      have hcov29d := kc2_cov (show cell H29b ⟨gv, 0, none⟩ = some (.pointer (some ⟨g, 0, none⟩)) from cell_le (rem_le _ [gk, g]) (cell_le hgr29.1.le (by rw [rem_ins_in _ (List.mem_cons_of_mem _ (List.mem_singleton.2 rfl))]; exact hv12))) (show cell H29b ⟨g, 4, none⟩ = some (.slice Au i cu) by simp [cell, hg29b])
      refine vck_nil hcov29d rfl ?_
      refine vck_fld hcov29d tbOk rfl rfl rfl ?_
      obtain ⟨ti29, hti29, htz29⟩ := sz93
      refine vck_hst (g := g) (o := 4) rfl hg29b rfl (by show 4 + 1 ≤ 9; omega) hti29 htz29 rfl rfl rfl rfl ?_
      have hg29 : ins H29b g { (⟨[.int .i64 ((unc p.lp.rel p.sgN p.u i + 1 : Nat) : Int), .int .i64 ((p.u : Nat) : Int), .slice Ap n cp, .slice Am n cm, .slice Au i cu, .slice (some ⟨qs, 0, none⟩) m cs, .slice none 0 0, .slice none 0 0, .slice none 0 0], 9, 96, true⟩ : Ent) with xs := splice [.int .i64 ((unc p.lp.rel p.sgN p.u i + 1 : Nat) : Int), .int .i64 ((p.u : Nat) : Int), .slice Ap n cp, .slice Am n cm, .slice Au i cu, .slice (some ⟨qs, 0, none⟩) m cs, .slice none 0 0, .slice none 0 0, .slice none 0 0] 4 [.slice A29 (i + 1) c29] } g = some ⟨[.int .i64 ((unc p.lp.rel p.sgN p.u i + 1 : Nat) : Int), .int .i64 ((p.u : Nat) : Int), .slice Ap n cp, .slice Am n cm, .slice A29 (i + 1) c29, .slice (some ⟨qs, 0, none⟩) m cs, .slice none 0 0, .slice none 0 0, .slice none 0 0], 9, 96, true⟩ := by rw [ins_same]; rfl
      have hG29 : Grew (rem H12 [gk, g]) (.slice Au i cu) 3 1 (i + 1) (ints (fun j => (p.unit j : Int)) i ++ [.int .i64 ((unc p.lp.rel p.sgN p.u i : Nat) : Int)]) (.slice A29 (i + 1) c29) (rem (ins H29b g { (⟨[.int .i64 ((unc p.lp.rel p.sgN p.u i + 1 : Nat) : Int), .int .i64 ((p.u : Nat) : Int), .slice Ap n cp, .slice Am n cm, .slice Au i cu, .slice (some ⟨qs, 0, none⟩) m cs, .slice none 0 0, .slice none 0 0, .slice none 0 0], 9, 96, true⟩ : Ent) with xs := splice [.int .i64 ((unc p.lp.rel p.sgN p.u i + 1 : Nat) : Int), .int .i64 ((p.u : Nat) : Int), .slice Ap n cp, .slice Am n cm, .slice Au i cu, .slice (some ⟨qs, 0, none⟩) m cs, .slice none 0 0, .slice none 0 0, .slice none 0 0] 4 [.slice A29 (i + 1) c29] }) [gk, g]) := by rw [rem_ins_in _ (List.mem_cons_of_mem _ (List.mem_singleton.2 rfl)), ← rem_ins_in (H := H12) ⟨[.int .i64 ((unc p.lp.rel p.sgN p.u i + 1 : Nat) : Int), .int .i64 ((p.u : Nat) : Int), .slice Ap n cp, .slice Am n cm, .slice Au i cu, .slice (some ⟨qs, 0, none⟩) m cs, .slice none 0 0, .slice none 0 0, .slice none 0 0], 9, 96, true⟩ (List.mem_cons_of_mem _ (List.mem_singleton.2 rfl))]; exact hgr29.1
      have hs29 : ∀ q, q ∈ [gk, g] → q ≠ g → ins H29b g { (⟨[.int .i64 ((unc p.lp.rel p.sgN p.u i + 1 : Nat) : Int), .int .i64 ((p.u : Nat) : Int), .slice Ap n cp, .slice Am n cm, .slice Au i cu, .slice (some ⟨qs, 0, none⟩) m cs, .slice none 0 0, .slice none 0 0, .slice none 0 0], 9, 96, true⟩ : Ent) with xs := splice [.int .i64 ((unc p.lp.rel p.sgN p.u i + 1 : Nat) : Int), .int .i64 ((p.u : Nat) : Int), .slice Ap n cp, .slice Am n cm, .slice Au i cu, .slice (some ⟨qs, 0, none⟩) m cs, .slice none 0 0, .slice none 0 0, .slice none 0 0] 4 [.slice A29 (i + 1) c29] } q = H12 q := fun q hq hn => by rw [ins_other _ _ hn, hgr29.2 q hq, ins_other _ _ hn]
      generalize ins H29b g { (⟨[.int .i64 ((unc p.lp.rel p.sgN p.u i + 1 : Nat) : Int), .int .i64 ((p.u : Nat) : Int), .slice Ap n cp, .slice Am n cm, .slice Au i cu, .slice (some ⟨qs, 0, none⟩) m cs, .slice none 0 0, .slice none 0 0, .slice none 0 0], 9, 96, true⟩ : Ent) with xs := splice [.int .i64 ((unc p.lp.rel p.sgN p.u i + 1 : Nat) : Int), .int .i64 ((p.u : Nat) : Int), .slice Ap n cp, .slice Am n cm, .slice Au i cu, .slice (some ⟨qs, 0, none⟩) m cs, .slice none 0 0, .slice none 0 0, .slice none 0 0] 4 [.slice A29 (i + 1) c29] } = H29 at hg29 hG29 hs29 ⊢
      refine vco_end ?_
      refine vc_keep [1, 3, 4, 7, 125, 126, 127] rfl ?_
      refine vc_region rfl ?_
      refine vco_add rfl rfl ⟨by omega, by omega⟩ ?_
      refine vco_run tbOk 1 rfl ?_
      refine vco_end ?_
      exact ⟨i + 1, _, by omega, sub_auto, cell_le hG29.le hv12, by rw [hg29, unc_new hown], by rw [hs29 gk (List.mem_cons_self ..) hgkg]; exact hgk12, hle12.trans hG29.le, by rw [ints_succ, show ((p.unit i : Nat) : Int) = ((unc p.lp.rel p.sgN p.u i : Nat) : Int) from congrArg (fun k : Nat => (k : Int)) (unt_new hown)]; exact hG29.own, hG29.blk (hleH.trans hle12) hbk12, by omega⟩
   ·
    have hb : m ≤ i := by simpa using hb
    obtain rfl : m = i := by omega
    have hwm : p.w = unc p.lp.rel p.sgN p.u m := by rw [hm]; rfl
    have hw4 := w_le p
    have hlm : p.lp.m = m := hm.symm
    have hln : p.lp.n = n := hn.symm
    rw [hlm, hln] at hw4
    have hgw : H12 g = some ⟨[.int .i64 ((p.w : Nat) : Int), .int .i64 ((p.u : Nat) : Int), .slice Ap n cp, .slice Am n cm, .slice Au m cu, .slice As m cs, .slice none 0 0, .slice none 0 0, .slice none 0 0], 9, 96, true⟩ := by rw [hg12, hwm]
    refine vc_exit ?_
    refine vc_keep [1, 3, 7] rfl ?_
    refine vc_seq ?_
    refine vc_sr ?_
    refine vco_run tbOk 4 rfl ?_
    refine vco_k [3, 7, 188, 189, 190] ?_
    refine vc_block ?_
    refine vc_loop4 (fun (i : Nat) (rv : Value) (bv : Value) (rg : List (Nat × Nat)) => m - i) (fun (i : Nat) (rv : Value) (bv : Value) (rg : List (Nat × Nat)) => put (put (put (put (put (emp) 3 (.val (.pointer (some ⟨gv, 0, none⟩)))) 7 (.val (.slice (some ⟨gk, 0, none⟩) m m))) 188 (.val (.slice Ar m cr))) 189 (.val (.int .i64 (m : Int)))) 190 (.val (.int .i64 (i : Int)))) (fun (i : Nat) (rv : Value) (bv : Value) (rg : List (Nat × Nat)) H' => H' g = some ⟨[.int .i64 ((p.w : Nat) : Int), .int .i64 ((p.u : Nat) : Int), .slice Ap n cp, .slice Am n cm, .slice Au m cu, .slice As m cs, rv, .slice none 0 0, bv], 9, 96, true⟩ ∧ H' gk = some ⟨(ints (fun j => if j < m then slz p.lp.rel p.c1 j else 0) m), m * 1, 3, true⟩ ∧ St6 (rem H12 [gk, g]) g gk p.w p.tab0.A p.unit H' rv i (rg.map (hdrR p.w)) bv i rg ∧ rg.length = i ∧ i ≤ m) 0 (.slice none 0 0) (.slice none 0 0) [] (⟨hgw, hgk12, St6.new hne12 hgkg, rfl, Nat.zero_le _⟩) sub_auto ?_
    rintro i rv bv rg H13 ⟨hg13, hgk13, h13, hl13, hi13⟩
    refine vc_sr ?_
    refine vco_run tbOk 1 rfl ?_
    refine vco_k [3, 7, 188, 189, 190, 191] ?_
    refine vc_seq ?_
    refine vc_cond rfl (fun hb => ?_) (fun hb => ?_)
    ·
     have him : i < m := by simpa using hb
     obtain ⟨r, hr⟩ : ∃ r, p.rows[i]? = some r := ⟨_, List.getElem?_eq_getElem (by omega)⟩
     obtain ⟨A0, c0, f, A1, m1, c1, A2, m2, c2, hrp, hrx⟩ := hxR i r hr
     have hrel : p.lp.rel i = r.2.1 := by show (p.row i).2.1 = _; rw [Prg.row_get hr]
     have him2 : i < p.lp.m := by rw [hlm]; exact him
     obtain ⟨qs, cq, hsE, hqs⟩ := own_slot hsv11 (by omega)
     obtain ⟨rfl, rfl⟩ : As = some ⟨qs, 0, none⟩ ∧ cs = cq := by simpa using hsE
     obtain ⟨Av, cv, rfl⟩ := h13.orv.form
     obtain ⟨Ab, cb, rfl⟩ := h13.obv.form
     have hrs13 : Rd H13 (some ⟨qs, 0, none⟩) ys := (((hsv11.rd).le hle12).le h13.le).le (rem_le _ _)
     have hcv13 : cell H13 ⟨gv, 0, none⟩ = some (.pointer (some ⟨g, 0, none⟩)) := cell_le (rem_le _ _) (cell_le h13.le hv12)
     have hsgo : p.sgN i = 1 ∨ p.sgN i = -1 := sgi_or (p.lp.b i) (p.lp.rel i)
     obtain ⟨vs9, _, hnv, hyx⟩ := (hys4 (rem (rem H13 (gsR (.slice Av i cv) rg (.slice Ab i cb) gk)) [g])).get (vals_get him)
     obtain ⟨sn, sd, sb, rfl⟩ := hnv.cells
     have hgR13 : rem H13 (gsR (.slice Av i cv) rg (.slice Ab i cb) gk) g = some ⟨[.int .i64 ((p.w : Nat) : Int), .int .i64 ((p.u : Nat) : Int), .slice Ap n cp, .slice Am n cm, .slice Au m cu, .slice (some ⟨qs, 0, none⟩) m cs, .slice Av i cv, .slice none 0 0, .slice Ab i cb], 9, 96, true⟩ := by rw [rem_out h13.gR]; exact hg13
     have hleR := h13.leR
     have hun := unit_lt p him2
     refine vc_skip ?_
     refine vc_keep [3, 7, 188, 189, 190] rfl ?_
     refine vc_seq ?_
     refine vc_block ?_
     refine vc_sr ?_
     refine vco_run tbOk 1 rfl ?_
     refine vco_at_st (vs := [.slice A0 r.1.length c0, .int .i64 r.2.1, .bool f, .slice A1 m1 c1, .slice A2 m2 c2]) tbOk rfl rfl rfl rfl ((((hrR.le hleH).le hle12).le h13.le).le (rem_le _ _)) rfl (by decide) hrx (by omega) (by omega) fun _ => ?_
     refine vco_alloc el46 rfl ?_
     refine vco_run tbOk 1 rfl ?_
     obtain ⟨ti, hti, htz⟩ := sz46; refine vco_bstore (.inl ⟨rfl, rfl⟩) rfl rfl rfl hti htz rfl rfl rfl ?_
     refine vco_k [3, 7, 13, 14, 188, 189, 190] ?_
     refine vc_sd .drawH [0, 1, 2, 3, 4, 5, 6, 7, 8, 9, 10, 11, 12, 13, 14, 15, 16, 17, 18, 19, 20, 21, 22, 23, 24, 25, 26, 27, 28, 29, 30] follows (by kernel_rfl) ?_
     refine vco_hload tbOk rfl rfl rfl hcv13 ?_
     refine vco_hload tbOk rfl rfl rfl hcv13 ?_
     refine vco_run tbOk 1 rfl ?_
     refine vco_hfld tbOk rfl rfl rfl ?_
     refine vco_hload tbOk rfl rfl rfl (show cell H13 ((⟨g, 0, none⟩ : Addr).add 6) = some (.slice Av i cv) by simp [cell, addr0, hg13]) ?_
     refine vco_hload tbOk rfl rfl rfl hcv13 ?_
     refine vco_run tbOk 1 rfl ?_
     refine vco_hload tbOk rfl rfl rfl hcv13 ?_
     refine vco_run tbOk 1 rfl ?_
     refine vco_hfld tbOk rfl rfl rfl ?_
     refine vco_hload tbOk rfl rfl rfl (show cell H13 ((⟨g, 0, none⟩ : Addr).add 5) = some (.slice (some ⟨qs, 0, none⟩) m cs) by simp [cell, addr0, hg13]) ?_
     refine vco_run tbOk 1 rfl ?_
     refine vco_at_st (vs := [.int .i64 sn, .int .i64 sd, .pointer sb]) tbOk rfl rfl rfl rfl hrs13 rfl (by decide) hyx (by omega) (by omega) fun _ => ?_
     refine vco_run tbOk 2 rfl ?_
     refine vco_at tbOk rfl rfl rfl rfl rfl (rd_at hgk13) (show (ints (fun j => if j < m then slz p.lp.rel p.c1 j else 0) m)[((i : Int)).toNat]? = some (.int .i64 (slz p.lp.rel p.c1 i)) from by rw [Int.toNat_natCast, ints_get him, if_pos him]) (by omega) (by omega) fun _ => ?_
     refine vco_hload tbOk rfl rfl rfl hcv13 ?_
     refine vco_run tbOk 1 rfl ?_
     refine vco_hfld tbOk rfl rfl rfl ?_
     refine vco_hload tbOk rfl rfl rfl (show cell H13 ((⟨g, 0, none⟩ : Addr).add 4) = some (.slice Au m cu) by simp [cell, addr0, hg13]) ?_
     refine vco_run tbOk 1 rfl ?_
     refine vco_at tbOk rfl rfl rfl rfl rfl (((huv12.rd).le h13.le).le (rem_le _ _)) (show (ints (fun j => (p.unit j : Int)) m)[((i : Int)).toNat]? = some (.int .i64 (p.unit i : Int)) from by rw [Int.toNat_natCast, ints_get him]) (by omega) (by omega) fun _ => ?_
     refine vco_callM rfl rfl (Fn.frame (gs := (gsR (.slice Av i cv) rg (.slice Ab i cb) gk)) h13.neR (row_ok (H := rem H13 (gsR (.slice Av i cv) rg (.slice Ab i cb) gk)) (g := g) (L := p.lay) (n := n) (N := N) (vs := [.slice A0 r.1.length c0, .int .i64 r.2.1, .bool f, .slice A1 m1 c1, .slice A2 m2 c2]) (ss := [.int .i64 sn, .int .i64 sd, .pointer sb]) (r := r) (slack := slz p.lp.rel p.c1 i) (unit := p.unit i) (sg := (p.sgN i : Rat)) hgR13 rfl rfl rfl (by show SlV NatP 1 _ _ ((List.range p.lp.n).map _); rw [hln]; exact (Own.nats hpv3).le natUp (hpv11.trans (hle12.trans hleR))) (by show SlV IntP 1 _ _ ((List.range p.lp.n).map _); rw [hln]; exact (Own.ints hmv3).le intUp (hpv11.trans (hle12.trans hleR))) (rowUp N _ _ _ _ (hleH.trans (hle12.trans hleR)) hrp) hnv (sz_sign hsgo) (by rw [hn]; exact (hok.row i r hr).1) (by show ((List.range p.lp.n).map _).length = _; rw [List.length_map, List.length_range, hln]) (by show ((List.range p.lp.n).map _).length = _; rw [List.length_map, List.length_range, hln]) (fun j hj => by rw [lay_pF p (by omega)]; have := colc_lt p (j := j) (by omega); have := c1_u p; have := u_w p; show _ < p.w; omega) (fun j hj => by rw [lay_mZ p (by omega)]; have := mnz_lt p (j := j) (by omega); have := c1_u p; have := u_w p; show _ < ((p.w : Nat) : Int); omega) (fun e => by have := slz_lt p him2 (by rw [hrel]; exact e); have := u_w p; show _ ∧ _ < ((p.w : Nat) : Int); omega) (show p.unit i < p.w from hun) hN (by show ((p.w : Nat) : Int) ≤ _; omega) (by omega))) (fun v K h => h.le fun v K h => h.1) ?_
     rintro _ H14 ⟨⟨_, z34, xs34, rfl, hwk34, hel34⟩, hs14⟩
     obtain ⟨h14, hg14, hgk14⟩ := h13.addRow (c := p.w + 1) (A := p.tab0.A) hs14 hwk34 (by rw [hl13, tab0_row p hr, hln]; exact hel34)
     rw [hg13] at hg14
     rw [hgk13] at hgk14
     refine vco_build Tryz.underlying94 el69 rfl rfl rfl rfl rfl rfl rfl ?_
     intro gb34 hgb34
     refine vco_append Tryz.underlying94 el69 rfl rfl (h14.orv.lift.1.ins _ hgb34) (rd_ins _ _ _ _ _ _) rfl (one_sl _ _ _) (by omega) (by omega) ?_
     intro v34 H34b ha34
     obtain ⟨A34, c34, rfl⟩ := ha34.own.form
     have hgr34 := grew (gs := (gsI (rg ++ [(z34, p.w + 1)]) (.slice Ab i cb) gk g)) h14.ne hgb34 h14.orv ha34
     have hgm : g ∈ (gsI (rg ++ [(z34, p.w + 1)]) (.slice Ab i cb) gk g) := mem_gsI.2 (.inr (.inr (.inr rfl)))
     have hg34b : H34b g = some ⟨[.int .i64 ((p.w : Nat) : Int), .int .i64 ((p.u : Nat) : Int), .slice Ap n cp, .slice Am n cm, .slice Au m cu, .slice (some ⟨qs, 0, none⟩) m cs, .slice Av i cv, .slice none 0 0, .slice Ab i cb], 9, 96, true⟩ := by rw [hgr34.2 g hgm]; exact hg14
     refine vco_run tbOk 1 rfl ?_
     refine vco_hfld tbOk rfl rfl rfl ?_
     obtain ⟨ti34, hti34, htz34⟩ := sz94
     refine vco_hst (g := g) (o := 6) (.inr rfl) rfl hg34b rfl (by show 6 + 1 ≤ 9; omega) hti34 htz34 rfl rfl rfl rfl ?_
     have hg15 : ins H34b g { (⟨[.int .i64 ((p.w : Nat) : Int), .int .i64 ((p.u : Nat) : Int), .slice Ap n cp, .slice Am n cm, .slice Au m cu, .slice (some ⟨qs, 0, none⟩) m cs, .slice Av i cv, .slice none 0 0, .slice Ab i cb], 9, 96, true⟩ : Ent) with xs := splice [.int .i64 ((p.w : Nat) : Int), .int .i64 ((p.u : Nat) : Int), .slice Ap n cp, .slice Am n cm, .slice Au m cu, .slice (some ⟨qs, 0, none⟩) m cs, .slice Av i cv, .slice none 0 0, .slice Ab i cb] 6 [.slice A34 (i + 1) c34] } g = some ⟨[.int .i64 ((p.w : Nat) : Int), .int .i64 ((p.u : Nat) : Int), .slice Ap n cp, .slice Am n cm, .slice Au m cu, .slice (some ⟨qs, 0, none⟩) m cs, .slice A34 (i + 1) c34, .slice none 0 0, .slice Ab i cb], 9, 96, true⟩ := by rw [ins_same]; rfl
     have hG34 : Grew (rem H14 (gsI (rg ++ [(z34, p.w + 1)]) (.slice Ab i cb) gk g)) (.slice Av i cv) 69 1 (i + 1) (rg.map (hdrR p.w) ++ [.slice (some ⟨z34, 0, none⟩) (p.w + 1) (p.w + 1)]) (.slice A34 (i + 1) c34) (rem (ins H34b g { (⟨[.int .i64 ((p.w : Nat) : Int), .int .i64 ((p.u : Nat) : Int), .slice Ap n cp, .slice Am n cm, .slice Au m cu, .slice (some ⟨qs, 0, none⟩) m cs, .slice Av i cv, .slice none 0 0, .slice Ab i cb], 9, 96, true⟩ : Ent) with xs := splice [.int .i64 ((p.w : Nat) : Int), .int .i64 ((p.u : Nat) : Int), .slice Ap n cp, .slice Am n cm, .slice Au m cu, .slice (some ⟨qs, 0, none⟩) m cs, .slice Av i cv, .slice none 0 0, .slice Ab i cb] 6 [.slice A34 (i + 1) c34] }) (gsI (rg ++ [(z34, p.w + 1)]) (.slice Ab i cb) gk g)) := by rw [rem_ins_in _ hgm]; exact hgr34.1
     have hs34 : ∀ q, q ∈ (gsI (rg ++ [(z34, p.w + 1)]) (.slice Ab i cb) gk g) → q ≠ g → ins H34b g { (⟨[.int .i64 ((p.w : Nat) : Int), .int .i64 ((p.u : Nat) : Int), .slice Ap n cp, .slice Am n cm, .slice Au m cu, .slice (some ⟨qs, 0, none⟩) m cs, .slice Av i cv, .slice none 0 0, .slice Ab i cb], 9, 96, true⟩ : Ent) with xs := splice [.int .i64 ((p.w : Nat) : Int), .int .i64 ((p.u : Nat) : Int), .slice Ap n cp, .slice Am n cm, .slice Au m cu, .slice (some ⟨qs, 0, none⟩) m cs, .slice Av i cv, .slice none 0 0, .slice Ab i cb] 6 [.slice A34 (i + 1) c34] } q = H14 q := fun q hq hn => by rw [ins_other _ _ hn, hgr34.2 q hq]
     generalize ins H34b g { (⟨[.int .i64 ((p.w : Nat) : Int), .int .i64 ((p.u : Nat) : Int), .slice Ap n cp, .slice Am n cm, .slice Au m cu, .slice (some ⟨qs, 0, none⟩) m cs, .slice Av i cv, .slice none 0 0, .slice Ab i cb], 9, 96, true⟩ : Ent) with xs := splice [.int .i64 ((p.w : Nat) : Int), .int .i64 ((p.u : Nat) : Int), .slice Ap n cp, .slice Am n cm, .slice Au m cu, .slice (some ⟨qs, 0, none⟩) m cs, .slice Av i cv, .slice none 0 0, .slice Ab i cb] 6 [.slice A34 (i + 1) c34] } = H15 at hg15 hG34 hs34 ⊢
     have hgk15 : H15 gk = some ⟨(ints (fun j => if j < m then slz p.lp.rel p.c1 j else 0) m), m * 1, 3, true⟩ := by rw [hs34 gk (mem_gsI.2 (.inr (.inr (.inl rfl)))) hgkg]; exact hgk14
     have h15 := h14.growR hG34 hs34 (by rw [hg15]; simp)
     have hv15 := cell_le h15.le hv12
     have hne15 : ∀ q, q ∈ (gsJ (rg ++ [(z34, p.w + 1)]) gk g) → H15 q ≠ none := fun q hq => h15.ne q (by rcases mem_gsJ.1 hq with h9 | h9; exact mem_gsI.2 (.inl h9); exact mem_gsI.2 (.inr (.inr h9)))
     refine vco_k [3, 7, 13, 188, 189, 190] ?_
     refine vc_draw .drawH [0, 1, 2, 3, 4, 5, 6, 7, 8, 9, 10, 11, 12, 13, 14, 15, 16] follows (by kernel_rfl) ?_
     have hcv35 : cell H15 ⟨gv, 0, none⟩ = some (.pointer (some ⟨g, 0, none⟩)) := cell_le (rem_le _ _) hv15
     have hcF35 : cell H15 ⟨g, 8, none⟩ = some (.slice Ab i cb) := by simp [cell, hg15]
     refine vco_hload tbOk rfl rfl rfl hcv35 ?_
     refine vco_hload tbOk rfl rfl rfl hcv35 ?_
     refine vco_run tbOk 1 rfl ?_
     refine vco_hfld tbOk rfl rfl rfl ?_
     refine vco_hload tbOk rfl rfl rfl hcF35 ?_
     refine vco_hload tbOk rfl rfl rfl hcv35 ?_
     refine vco_run tbOk 1 rfl ?_
     refine vco_hfld tbOk rfl rfl rfl ?_
     refine vco_hload tbOk rfl rfl rfl (show cell H15 ((⟨g, 0, none⟩ : Addr).add 4) = some (.slice Au m cu) by simp [cell, addr0, hg15]) ?_
     refine vco_run tbOk 1 rfl ?_
     refine vco_at tbOk rfl rfl rfl rfl rfl (((huv12.rd).le h15.le).le (rem_le _ _)) (show (ints (fun j => (p.unit j : Int)) m)[((i : Int)).toNat]? = some (.int .i64 (p.unit i : Int)) from by rw [Int.toNat_natCast, ints_get him]) (by omega) (by omega) fun _ => ?_
     refine vco_build Tryz.underlying93 el3 rfl rfl rfl rfl rfl rfl rfl ?_
     intro gb35 hgb35
     refine vco_append Tryz.underlying93 el3 rfl rfl (h15.bvJ.lift.1.ins _ hgb35) (rd_ins _ _ _ _ _ _) rfl (one_int _) (by omega) (by omega) ?_
     intro v35 H35b ha35
     obtain ⟨A35, c35, rfl⟩ := ha35.own.form
     have hgr35 := grew (gs := (gsJ (rg ++ [(z34, p.w + 1)]) gk g)) hne15 hgb35 h15.bvJ ha35
     have hg35b : H35b g = some ⟨[.int .i64 ((p.w : Nat) : Int), .int .i64 ((p.u : Nat) : Int), .slice Ap n cp, .slice Am n cm, .slice Au m cu, .slice (some ⟨qs, 0, none⟩) m cs, .slice A34 (i + 1) c34, .slice none 0 0, .slice Ab i cb], 9, 96, true⟩ := by rw [hgr35.2 g (mem_gsJ.2 (.inr (.inr rfl)))]; exact hg15
     refine vco_run tbOk 1 rfl ?_
     refine vco_hfld tbOk rfl rfl rfl ?_
     obtain ⟨ti35, hti35, htz35⟩ := sz93
     refine vco_hst (g := g) (o := 8) (.inr rfl) rfl hg35b rfl (by show 8 + 1 ≤ 9; omega) hti35 htz35 rfl rfl rfl rfl ?_
     have hg35 : ins H35b g { (⟨[.int .i64 ((p.w : Nat) : Int), .int .i64 ((p.u : Nat) : Int), .slice Ap n cp, .slice Am n cm, .slice Au m cu, .slice (some ⟨qs, 0, none⟩) m cs, .slice A34 (i + 1) c34, .slice none 0 0, .slice Ab i cb], 9, 96, true⟩ : Ent) with xs := splice [.int .i64 ((p.w : Nat) : Int), .int .i64 ((p.u : Nat) : Int), .slice Ap n cp, .slice Am n cm, .slice Au m cu, .slice (some ⟨qs, 0, none⟩) m cs, .slice A34 (i + 1) c34, .slice none 0 0, .slice Ab i cb] 8 [.slice A35 (i + 1) c35] } g = some ⟨[.int .i64 ((p.w : Nat) : Int), .int .i64 ((p.u : Nat) : Int), .slice Ap n cp, .slice Am n cm, .slice Au m cu, .slice (some ⟨qs, 0, none⟩) m cs, .slice A34 (i + 1) c34, .slice none 0 0, .slice A35 (i + 1) c35], 9, 96, true⟩ := by rw [ins_same]; rfl
     have hG35 : Grew (rem H15 (gsJ (rg ++ [(z34, p.w + 1)]) gk g)) (.slice Ab i cb) 3 1 (i + 1) (ints (fun j => (p.unit j : Int)) i ++ [.int .i64 (p.unit i : Int)]) (.slice A35 (i + 1) c35) (rem (ins H35b g { (⟨[.int .i64 ((p.w : Nat) : Int), .int .i64 ((p.u : Nat) : Int), .slice Ap n cp, .slice Am n cm, .slice Au m cu, .slice (some ⟨qs, 0, none⟩) m cs, .slice A34 (i + 1) c34, .slice none 0 0, .slice Ab i cb], 9, 96, true⟩ : Ent) with xs := splice [.int .i64 ((p.w : Nat) : Int), .int .i64 ((p.u : Nat) : Int), .slice Ap n cp, .slice Am n cm, .slice Au m cu, .slice (some ⟨qs, 0, none⟩) m cs, .slice A34 (i + 1) c34, .slice none 0 0, .slice Ab i cb] 8 [.slice A35 (i + 1) c35] }) (gsJ (rg ++ [(z34, p.w + 1)]) gk g)) := by rw [rem_ins_in _ (mem_gsJ.2 (.inr (.inr rfl)))]; exact hgr35.1
     have hs35 : ∀ q, q ∈ (gsJ (rg ++ [(z34, p.w + 1)]) gk g) → q ≠ g → ins H35b g { (⟨[.int .i64 ((p.w : Nat) : Int), .int .i64 ((p.u : Nat) : Int), .slice Ap n cp, .slice Am n cm, .slice Au m cu, .slice (some ⟨qs, 0, none⟩) m cs, .slice A34 (i + 1) c34, .slice none 0 0, .slice Ab i cb], 9, 96, true⟩ : Ent) with xs := splice [.int .i64 ((p.w : Nat) : Int), .int .i64 ((p.u : Nat) : Int), .slice Ap n cp, .slice Am n cm, .slice Au m cu, .slice (some ⟨qs, 0, none⟩) m cs, .slice A34 (i + 1) c34, .slice none 0 0, .slice Ab i cb] 8 [.slice A35 (i + 1) c35] } q = H15 q := fun q hq hn => by rw [ins_other _ _ hn, hgr35.2 q hq]
     generalize ins H35b g { (⟨[.int .i64 ((p.w : Nat) : Int), .int .i64 ((p.u : Nat) : Int), .slice Ap n cp, .slice Am n cm, .slice Au m cu, .slice (some ⟨qs, 0, none⟩) m cs, .slice A34 (i + 1) c34, .slice none 0 0, .slice Ab i cb], 9, 96, true⟩ : Ent) with xs := splice [.int .i64 ((p.w : Nat) : Int), .int .i64 ((p.u : Nat) : Int), .slice Ap n cp, .slice Am n cm, .slice Au m cu, .slice (some ⟨qs, 0, none⟩) m cs, .slice A34 (i + 1) c34, .slice none 0 0, .slice Ab i cb] 8 [.slice A35 (i + 1) c35] } = H35 at hg35 hG35 hs35 ⊢
     refine vco_end ?_
     refine vc_keep [3, 7, 188, 189, 190] rfl ?_
     refine vc_region rfl ?_
     refine vco_add rfl rfl ⟨by omega, by omega⟩ ?_
     refine vco_run tbOk 1 rfl ?_
     refine vco_end ?_
     exact ⟨i + 1, _, _, rg ++ [(z34, p.w + 1)], by omega, sub_auto, hg35, by rw [hs35 gk (mem_gsJ.2 (.inr (.inl rfl))) hgkg]; exact hgk15, by rw [List.map_append]; exact h15.growB (by rw [ints_succ]; exact hG35) hs35 (by rw [hg35]; simp), by rw [List.length_append, hl13]; rfl, by omega⟩
    ·
     have hb : m ≤ i := by simpa using hb
     obtain rfl : m = i := by omega
     refine vc_exit ?_
     refine vc_keep [3] rfl ?_
     refine vc_sr ?_
     refine vco_hload tbOk rfl rfl rfl (cell_le (rem_le _ _) (cell_le h13.le hv12)) ?_
     refine vco_run tbOk 1 rfl ?_
     refine vco_k [2] ?_
     refine vc_ret ⟨.inr rfl, _, .tmp rfl (.nil), ?_⟩
     exact by have hpv9 := (Own.nats hpv3).le natUp (hpv11.trans hle12); have hmv9 := (Own.ints hmv3).le intUp (hpv11.trans hle12); have hsv9 := Own.nums hsv11 hys4 hle12; have huv9 := Own.nats huv12; subst hn; subst hm; obtain ⟨G, h1, h2, h3, h4⟩ := St6.tab h13 hl13 hg13 hpv9 hmv9 huv9 hsv9; exact ⟨G, h1, h2, h3, (hleH.trans hle12).trans h4⟩
end Go.Eng
