/- Walks over package amortcostref22: turned, Dual, SameRats, SameProgram. -/
import Derived.Test.YtfkeccepnppjnaaGreatA11
import Derived.Test.YtfkeccepnppjnaaGreatDual
import Derived.Test.YtfkeccepnppjnaaGreatChk1
set_option linter.unusedVariables false
namespace Go.Eng
open Go.Proofs Num Lp
theorem rTurned_ok {H : Heap} {t : RC} {q : Rat} {r : List Rat × Int × Rat} {N : Nat} (hq : RawV H t.v q N) (hN : (N : Int) ≤ 1099511627776) :
  Fn Tryz.prog 93 #[.int .i64 r.2.1, t.v] H (RetR H (sgR r q)) := by
 refine fn_intro (args := [_, _]) Tryz.func93 rfl rfl Tryz.ntmps93 rfl rfl fun w0 => ?_
 refine vc_keep [0, 1] rfl ?_
 refine vc_sr ?_
 refine vco_box rfl rfl ?_
 refine vco_alloc el34 rfl ?_
 refine vco_k [0, 3, 4] ?_
 refine vc_seq ?_
 refine vc_sr ?_
 refine vco_run tbOk 2 rfl ?_
 refine vco_k [3, 4, 6] ?_
 refine vc_cond rfl (fun hb => ?_) (fun hb => ?_)
 ·
  have h1 : r.2.1 = 1 := by simpa using hb
  refine vc_sr ?_
  refine vco_run tbOk 1 rfl ?_
  refine vco_call rfl rfl ((rNeg_ok hq (by omega)).rc) ?_
  rintro _ H1 ⟨hl1, t1, rfl, hq1⟩
  obtain ⟨ti, hti, htz⟩ := sz34; refine vco_bstore (.inl ⟨rfl, rfl⟩) rfl rfl rfl hti htz rfl rfl rfl ?_
  refine vco_k [4] ?_
  obtain ⟨ri0, rhi0, rhz0⟩ := sz34; refine vc_ret ⟨.inr rfl, _, .agg rfl Tryz.underlying34 rhi0 rhz0 (.nil), ?_⟩
  exact ⟨hl1, t1, rfl, by unfold sgR; rw [if_pos h1]; exact hq1⟩
 ·
  have h1 : ¬ r.2.1 = 1 := by simpa using hb
  refine vc_skip ?_
  refine vc_keep [3, 4] rfl ?_
  refine vc_sr ?_
  refine vco_run tbOk 1 rfl ?_
  refine vco_call rfl rfl ((rCanonical_ok hq (by omega)).rc) ?_
  rintro _ H1 ⟨hl1, t1, rfl, hq1⟩
  obtain ⟨ti, hti, htz⟩ := sz34; refine vco_bstore (.inl ⟨rfl, rfl⟩) rfl rfl rfl hti htz rfl rfl rfl ?_
  refine vco_k [4] ?_
  obtain ⟨ri0, rhi0, rhz0⟩ := sz34; refine vc_ret ⟨.inr rfl, _, .agg rfl Tryz.underlying34 rhi0 rhz0 (.nil), ?_⟩
  exact ⟨hl1, t1, rfl, by unfold sgR; rw [if_neg h1]; exact hq1⟩
theorem rDual_ok {H : Heap} {v cv : Value} {p : Prg} {c : List Rat} {N : Nat} (hp : ProgV N H v p) (hc : SlV (RatP N) 3 H cv c) (hN : N ≤ 400000000) :
  Fn Tryz.prog 41 #[v, cv] H (DualP p c (N + 2) H) := by
 obtain ⟨fv, rv0, rfl, hfv, hrv0⟩ := id hp
 obtain ⟨Af, cf, xf, rfl, hrF, hxF⟩ := hfv.one
 obtain ⟨Ar, cr, xr, rfl, hcr, hrR, hxR⟩ := hrv0
 obtain ⟨AC, cC, xC, rfl, hcC, hrC, hxC⟩ := id hc
 have hcz := hc.rsize
 have hpz := hp.rsize
 refine fn_intro (args := [_, _]) Tryz.func41 rfl rfl Tryz.ntmps41 rfl rfl fun w0 => ?_
 refine vc_keep [0, 1] rfl ?_
 refine vc_sr ?_
 refine vco_box rfl rfl ?_
 refine vco_alloc el25 rfl ?_
 refine vco_run tbOk 2 rfl ?_
 refine vco_k [1, 2, 4] ?_
 refine vc_seq ?_
 refine vc_sr ?_
 refine vco_run tbOk 1 rfl ?_
 refine vco_call rfl rfl (rValid_ok hp) ?_
 rintro _ H1 ⟨e1, b1, rfl, hb1⟩
 rw [e1]
 refine vco_run tbOk 1 rfl ?_
 refine vco_k [1, 2, 4, 15] ?_
 refine vc_cond rfl (fun hb => ?_) (fun hb => ?_)
 ·
  have hbf : b1 = false := by simpa using hb
  subst hbf
  have hok : ¬ p.Ok := fun h => by have h9 := hb1.2 h; cases h9
  refine vc_sr ?_
  refine vco_st tbOk rfl el25 rfl rfl ?_
  obtain ⟨ti, hti, htz⟩ := sz25; refine vco_bstore (.inl ⟨rfl, rfl⟩) rfl rfl rfl hti htz rfl rfl rfl ?_
  refine vco_run tbOk 2 rfl ?_
  refine vco_k [4, 5, 6] ?_
  obtain ⟨ri0, rhi0, rhz0⟩ := sz25; refine vc_ret ⟨.inr rfl, _, .agg rfl Tryz.underlying25 rhi0 rhz0 (.tmp rfl (.tmp rfl (.nil))), ?_⟩
  exact ⟨.refl _, none, 0, 0, none, 0, 0, none, 0, 0, 1, rfl, .inl ⟨hok, rfl, rfl, rfl, rfl, rfl, rfl, rfl, rfl, rfl, rfl⟩⟩
 ·
  have hbt : b1 = true := by simpa using hb
  have hok := hb1.1 hbt
  have hn4 := hok.cols
  have hm8 := hok.rows
  refine vc_skip ?_
  refine vc_keep [1, 2, 4] rfl ?_
  refine vc_seq ?_
  refine vc_sr ?_
  refine vco_run tbOk 6 rfl ?_
  refine vco_k [1, 2, 4, 22] ?_
  refine vc_cond rfl (fun hb => ?_) (fun hb => ?_)
  ·
   have hcl : c.length ≠ p.free.length := by simpa [Int.natCast_inj] using hb
   refine vc_sr ?_
   refine vco_st tbOk rfl el25 rfl rfl ?_
   obtain ⟨ti, hti, htz⟩ := sz25; refine vco_bstore (.inl ⟨rfl, rfl⟩) rfl rfl rfl hti htz rfl rfl rfl ?_
   refine vco_run tbOk 2 rfl ?_
   refine vco_k [4, 5, 6] ?_
   obtain ⟨ri0, rhi0, rhz0⟩ := sz25; refine vc_ret ⟨.inr rfl, _, .agg rfl Tryz.underlying25 rhi0 rhz0 (.tmp rfl (.tmp rfl (.nil))), ?_⟩
   exact ⟨.refl _, none, 0, 0, none, 0, 0, none, 0, 0, 21, rfl, .inr (.inl ⟨hok, hcl, rfl, rfl, rfl, rfl, rfl, rfl, rfl, rfl, rfl, rfl⟩)⟩
  ·
   have hcl : c.length = p.free.length := by simpa [Int.natCast_inj] using hb
   refine vc_skip ?_
   refine vc_keep [1, 2, 4] rfl ?_
   refine vc_seq ?_
   refine vc_sr ?_
   refine vco_run tbOk 4 rfl ?_
   refine vco_k [1, 2, 4, 27] ?_
   refine vc_cond rfl (fun hb => ?_) (fun hb => ?_)
   ·
    have hm4i : (400 : Int) < (p.rows.length : Int) := by simpa using hb
    have hm4 : 400 < p.rows.length := by omega
    refine vc_sr ?_
    refine vco_st tbOk rfl el25 rfl rfl ?_
    obtain ⟨ti, hti, htz⟩ := sz25; refine vco_bstore (.inl ⟨rfl, rfl⟩) rfl rfl rfl hti htz rfl rfl rfl ?_
    refine vco_run tbOk 2 rfl ?_
    refine vco_k [4, 5, 6] ?_
    obtain ⟨ri0, rhi0, rhz0⟩ := sz25; refine vc_ret ⟨.inr rfl, _, .agg rfl Tryz.underlying25 rhi0 rhz0 (.tmp rfl (.tmp rfl (.nil))), ?_⟩
    exact ⟨.refl _, none, 0, 0, none, 0, 0, none, 0, 0, 9, rfl, .inr (.inr (.inl ⟨hok, hcl, hm4, rfl, rfl, rfl, rfl, rfl, rfl, rfl, rfl, rfl, rfl⟩))⟩
   ·
    have hm4i : (p.rows.length : Int) ≤ 400 := by simpa using hb
    have hm4 : p.rows.length ≤ 400 := by omega
    refine vc_skip ?_
    refine vc_keep [1, 2, 4] rfl ?_
    refine vc_sr ?_
    refine vco_alloc el25 rfl ?_
    refine vco_k [1, 2, 4, 7] ?_
    refine vc_sr ?_
    refine vco_run tbOk 1 rfl ?_
    refine vco_k [1, 2, 4, 7, 8] ?_
    refine vc_seq ?_
    refine vc_sr ?_
    refine vco_run tbOk 4 rfl ?_
    refine vco_k [1, 2, 4, 7, 8, 31, 32] ?_
    refine vc_block ?_
    refine vc_loop3 (fun (i : Nat) (w : Value × Value) (z : List Value × List Value) => p.rows.length - i) (fun (i : Nat) (w : Value × Value) (z : List Value × List Value) => put (put (put (put (put (put (put (emp) 1 (.val (.slice AC c.length cC))) 2 (.box [.slice Af p.free.length cf, .slice Ar p.rows.length cr])) 4 (.box [.slice none 0 0, .slice none 0 0])) 7 (.box [w.1, .slice none 0 0])) 8 (.val (w.2))) 31 (.val (.int .i64 (p.rows.length : Int)))) 32 (.val (.int .i64 (i : Int)))) (fun (i : Nat) (w : Value × Value) (z : List Value × List Value) H' => Gro2 BoolP 4 1 CanP 34 3 H H' w.1 ((p.rows.take i).map (fun r => r.2.1 == 2)) z.1 w.2 ((p.rows.take i).map (fun r => -sgR r r.2.2)) z.2 ∧ i ≤ p.rows.length) 0 (.slice none 0 0, .slice none 0 0) ([], []) (⟨(gro_nil H).two, Nat.zero_le _⟩) sub_auto ?_
    rintro i w z H1 ⟨hG, hi⟩
    obtain ⟨w1, w2⟩ := w
    obtain ⟨z1, z2⟩ := z
    simp only at hG
    obtain ⟨D1, d1, rfl⟩ := hG.form
    obtain ⟨D2, d2, rfl⟩ := hG.form'
    refine vc_sr ?_
    refine vco_run tbOk 1 rfl ?_
    refine vco_k [1, 2, 4, 7, 8, 31, 32, 33] ?_
    refine vc_seq ?_
    refine vc_cond rfl (fun hb => ?_) (fun hb => ?_)
    ·
     have him : i < p.rows.length := by simpa using hb
     obtain ⟨r, hr⟩ : ∃ r, p.rows[i]? = some r := ⟨_, List.getElem?_eq_getElem him⟩
     obtain ⟨A0, c0, f, A1, m1, c1, A2, m2, c2, hsg, hsl, hraw, hrx⟩ := SlV.segR hxR hr
     have htl : ((p.rows.take i).map (fun r => r.2.1 == 2)).length = i := by simp; omega
     have htl2 : ((p.rows.take i).map (fun r => -sgR r r.2.2)).length = i := by simp; omega
     have hbz := hraw.size
     refine vc_skip ?_
     refine vc_keep [1, 2, 4, 7, 8, 31, 32] rfl ?_
     refine vc_seq ?_
     refine vc_block ?_
     refine vc_sr ?_
     refine vco_run tbOk 2 rfl ?_
     refine vco_k [1, 2, 4, 7, 8, 9, 31, 32] ?_
     refine vc_sd .drawB [0, 1, 2, 3, 4, 5, 6, 7, 8, 9, 10, 11, 12] follows (by kernel_rfl) ?_
     refine vco_run tbOk 5 rfl ?_
     refine vco_atf tbOk rfl rfl rfl rfl rfl rfl rfl (hrR.le hG.le) (hrx 1 _ rfl) (by omega) (by omega) fun _ _ => ?_
     refine vco_run tbOk 1 rfl ?_
     refine vco_build Tryz.underlying22 el4 rfl rfl rfl rfl rfl rfl rfl ?_
     intro gb hgb
     have hG2 := hG.ins boolUp canUp (whole (cellsL [.bool (r.2.1 == 2)]) 4) hgb
     refine vco_append Tryz.underlying22 el4 rfl rfl hG2.own (rd_ins _ _ _ _ _ _) rfl (one_bool _) (by rw [htl]; omega) (by rw [htl]; omega) ?_
     intro v3 H3 ha3
     have hG3 := hG2.append boolUp canUp (j := [r.2.1 == 2]) (by simp) ha3 (els_one rfl rfl)
     obtain ⟨D3, d3, rfl⟩ := hG3.form
     refine vco_run tbOk 1 rfl ?_
     obtain ⟨ti, hti, htz⟩ := sz22; refine vco_bstore (.inr rfl) rfl rfl rfl hti htz rfl rfl rfl ?_
     refine vco_k [1, 2, 4, 7, 8, 9, 31, 32] ?_
     refine vc_draw .drawB [0, 1, 2, 3, 4, 5, 6, 7, 8, 9, 10, 11, 12, 13, 14, 15, 16, 17] follows (by kernel_rfl) ?_
     refine vco_run tbOk 4 rfl ?_
     refine vco_atf tbOk rfl rfl rfl rfl rfl rfl rfl (hrR.le hG3.le) (hrx 1 _ rfl) (by omega) (by omega) fun _ _ => ?_
     refine vco_run tbOk 3 rfl ?_
     refine vco_atf_st tbOk rfl rfl rfl rfl rfl rfl (hrR.le hG3.le) rfl (by decide) (row_b hrx) (by omega) (by omega) fun _ _ => ?_
     refine vco_callM rfl rfl (hG3.call (rNeg_ok (hraw.le hG3.base) (by omega))) (fun _ _ h => h.le fun _ _ h => h.1) ?_
     rintro _ H4 hF4
     have hG4 := hG3.framed boolUp canUp hF4 fun _ _ h => h.1
     obtain ⟨⟨_, hq4⟩, _⟩ := hF4
     obtain ⟨t4, rfl⟩ := hq4.rc
     have hz4 := szQ_neg r.2.2
     refine vco_callM rfl rfl (hG4.call (rTurned_ok (r := r) (N := N + 2) ((CanV.raw hq4).mono (by omega)) (by omega))) (fun _ _ h => h.le fun _ _ h => h.1) ?_
     rintro _ H4b hF4b
     have hG4b := hG4.framed boolUp canUp hF4b fun _ _ h => h.1
     obtain ⟨⟨_, t4b, rfl, hq4b⟩, _⟩ := hF4b
     rw [show sgR r (-r.2.2) = -sgR r r.2.2 from by unfold sgR; split <;> rfl] at hq4b
     refine vco_build Tryz.underlying26 el34 rfl rfl rfl rfl rfl rfl rfl ?_
     intro gc hgc
     have hG4c := hG4b.ins boolUp canUp (whole (cellsL [t4b.v]) 34) hgc
     refine vco_append Tryz.underlying26 el34 rfl rfl hG4c.own' (rd_ins _ _ _ _ _ _) rfl (one_rat _ _ _ _ _ _ _) (by rw [htl2]; omega) (by rw [htl2]; omega) ?_
     intro v5 H5 ha5
     have hG5 := hG4c.append' boolUp canUp (j := [-sgR r r.2.2]) (by simp) ha5 (els_one (canUp _ _ _ _ (rem_mono _ (Heap.le_ins _ hgc)) (show CanP _ [_, _, _] _ from hq4b)) rfl)
     refine vco_run tbOk 1 rfl ?_
     refine vco_end ?_
     refine vc_keep [1, 2, 4, 7, 8, 31, 32] rfl ?_
     refine vc_region rfl ?_
     refine vco_add rfl rfl ⟨by omega, by omega⟩ ?_
     refine vco_run tbOk 1 rfl ?_
     refine vco_end ?_
     exact ⟨i + 1, (_, _), (_, _), by omega, sub_auto, by rw [tms hr, tms hr]; exact hG5, by omega⟩
    ·
     have hb : p.rows.length ≤ i := by simpa using hb
     obtain rfl : i = p.rows.length := by omega
     rw [List.take_length, show p.rows.map (fun r => r.2.1 == 2) = duF p from rfl, show p.rows.map (fun r => -sgR r r.2.2) = duO p from rfl] at hG
     have hl01 := hG.le
     have hFr := (hG.one boolUp canUp).1.sl boolUp
     have hOb := ((hG.one boolUp canUp).2.le canUp (rem_le _ _)).can_rat (N := N + 2) (fun q hq => by
      obtain ⟨r, hr, rfl⟩ := List.mem_map.1 hq
      rw [szQ_neg, sgR_sz]; exact (hpz r hr).2)
     rw [List.length_map, List.length_map, List.length_take, Nat.min_self]
     have hlF : (duF p).length = p.rows.length := by simp [duF]
     have hlO : (duO p).length = p.rows.length := by simp [duO]
     rw [hlF] at hFr
     rw [hlO] at hOb
     clear hG
     refine vc_exit ?_
     refine vc_keep [1, 2, 4, 7, 8] rfl ?_
     refine vc_seq ?_
     refine vc_sr ?_
     refine vco_run tbOk 4 rfl ?_
     refine vco_k [1, 2, 4, 7, 8, 67, 68] ?_
     refine vc_block ?_
     refine vc_loop3 (fun (j : Nat) (w : Value) (xs9 : List Value) => p.free.length - j) (fun (j : Nat) (w : Value) (xs9 : List Value) => put (put (put (put (put (put (put (emp) 1 (.val (.slice AC c.length cC))) 2 (.box [.slice Af p.free.length cf, .slice Ar p.rows.length cr])) 4 (.box [.slice none 0 0, .slice none 0 0])) 7 (.box [.slice D1 p.rows.length d1, w])) 8 (.val (.slice D2 p.rows.length d2))) 67 (.val (.int .i64 (p.free.length : Int)))) 68 (.val (.int .i64 (j : Int)))) (fun (j : Nat) (w : Value) (xs9 : List Value) H' => Gro (RowP (N + 2)) 46 5 H1 H' w ((List.range j).map (duR p c)) xs9 ∧ j ≤ p.free.length) 0 (.slice none 0 0) [] (⟨gro_nil H1, Nat.zero_le _⟩) sub_auto ?_
     rintro j w xs9 H2 ⟨hG, hj⟩
     obtain ⟨E1, e1, rfl⟩ := hG.form
     have hl02 := hl01.trans hG.le
     have htl : ((List.range j).map (duR p c)).length = j := by simp
     refine vc_sr ?_
     refine vco_run tbOk 1 rfl ?_
     refine vco_k [1, 2, 4, 7, 8, 67, 68, 69] ?_
     refine vc_seq ?_
     refine vc_cond rfl (fun hb => ?_) (fun hb => ?_)
     ·
      have hjn : j < p.free.length := by simpa using hb
      obtain ⟨b, hbk⟩ : ∃ b, p.free[j]? = some b := ⟨_, List.getElem?_eq_getElem hjn⟩
      obtain ⟨u, hu, hub⟩ := hxF j b hbk
      cases hub
      have hfb := Prg.free_get hbk
      obtain ⟨q, hqk⟩ : ∃ q, c[j]? = some q := ⟨_, List.getElem?_eq_getElem (by omega)⟩
      obtain ⟨g5, B1, k1, e1', B2, k2, e2, hsg5, hraw5, hqx⟩ := SlV.seg3 hxC hqk
      have hfq := fn_get hqk
      have hzq := hraw5.size
      refine vc_skip ?_
      refine vc_keep [1, 2, 4, 7, 8, 67, 68] rfl ?_
      refine vc_seq ?_
      refine vc_block ?_
      refine vc_sr ?_
      refine vco_run tbOk 2 rfl ?_
      refine vco_k [1, 2, 4, 7, 8, 10, 67, 68] ?_
      refine vc_sr ?_
      refine vco_run tbOk 2 rfl ?_
      refine vco_at_st (vs := [.bool g5, .slice B1 k1 e1', .slice B2 k2 e2]) tbOk rfl rfl rfl rfl (hrC.le hl02) rfl (by decide) hqx (by omega) (by omega) fun _ => ?_
      refine vco_call rfl rfl (hG.call (rCanonical_ok (hraw5.le (hl01.trans hG.base)) (by omega))) ?_
      rintro _ H3 hF3
      have hG3 := (hG.framed (rowUp (N + 2)) hF3 fun _ _ h => h.1)
      obtain ⟨⟨_, hq3⟩, _⟩ := hF3
      obtain ⟨t3, rfl⟩ := hq3.rc
      refine vco_st tbOk rfl el46 rfl rfl ?_
      refine vco_alloc el46 rfl ?_
      obtain ⟨ti, hti, htz⟩ := sz46; refine vco_bstore (.inl ⟨rfl, rfl⟩) rfl rfl rfl hti htz rfl rfl rfl ?_
      refine vco_k [1, 2, 4, 7, 8, 10, 11, 67, 68] ?_
      refine vc_cut1 (fun (rl : Int) => put (put (put (put (put (put (put (put (put (emp) 1 (.val (.slice AC c.length cC))) 2 (.box [.slice Af p.free.length cf, .slice Ar p.rows.length cr])) 4 (.box [.slice none 0 0, .slice none 0 0])) 7 (.box [.slice D1 p.rows.length d1, .slice E1 ((List.range j).map (duR p c)).length e1])) 8 (.val (.slice D2 p.rows.length d2))) 10 (.val (.int .i64 (j : Int)))) 11 (.box [.slice none 0 0, .int .i64 rl, .bool t3.f, .slice t3.A1 t3.m1 t3.c1, .slice t3.A2 t3.m2 t3.c2])) 67 (.val (.int .i64 (p.free.length : Int)))) 68 (.val (.int .i64 (j : Int)))) (fun (rl : Int) H' => H' = H3 ∧ rl = (if b then 2 else 1)) ?_ ?_
      ·
       refine vc_sr ?_
       refine vco_run tbOk 3 rfl ?_
       refine vco_at tbOk rfl rfl rfl rfl rfl (hrF.le (hl01.trans hG3.le)) (by rw [Int.toNat_natCast]; exact hu) (by omega) (by omega) fun _ => ?_
       refine vco_k [1, 2, 4, 7, 8, 10, 11, 67, 68, 81] ?_
       refine vc_cond rfl (fun hb => ?_) (fun hb => ?_)
       ·
        have hbt : b = true := by simpa using hb
        refine vc_region rfl ?_
        refine vco_run tbOk 1 rfl ?_
        obtain ⟨ti, hti, htz⟩ := sz3; refine vco_bstore (.inr rfl) rfl rfl rfl hti htz rfl rfl rfl ?_
        refine vco_end ?_
        exact ⟨2, sub_auto, rfl, by rw [hbt]; rfl⟩
       ·
        have hbf : b = false := by simpa using hb
        refine vc_skip ?_
        exact ⟨1, sub_auto, rfl, by rw [hbf]; rfl⟩
      ·
       rintro rl H4 ⟨e4, hrl⟩
       rw [e4]
       refine vc_seq ?_
       refine vc_sr ?_
       refine vco_run tbOk 4 rfl ?_
       refine vco_k [1, 2, 4, 7, 8, 10, 11, 67, 68, 85, 86] ?_
       refine vc_block ?_
       refine vc_loop3 (fun (i : Nat) (w : Value) (z : List Value) => p.rows.length - i) (fun (i : Nat) (w : Value) (z : List Value) => put (put (put (put (put (put (put (put (put (put (put (emp) 1 (.val (.slice AC c.length cC))) 2 (.box [.slice Af p.free.length cf, .slice Ar p.rows.length cr])) 4 (.box [.slice none 0 0, .slice none 0 0])) 7 (.box [.slice D1 p.rows.length d1, .slice E1 ((List.range j).map (duR p c)).length e1])) 8 (.val (.slice D2 p.rows.length d2))) 10 (.val (.int .i64 (j : Int)))) 11 (.box [w, .int .i64 rl, .bool t3.f, .slice t3.A1 t3.m1 t3.c1, .slice t3.A2 t3.m2 t3.c2])) 67 (.val (.int .i64 (p.free.length : Int)))) 68 (.val (.int .i64 (j : Int)))) 85 (.val (.int .i64 (p.rows.length : Int)))) 86 (.val (.int .i64 (i : Int)))) (fun (i : Nat) (w : Value) (z : List Value) H' => Gro2 (RowP (N + 2)) 46 5 CanP 34 3 (rem H3 (blk (.slice E1 ((List.range j).map (duR p c)).length e1))) H' (.slice E1 ((List.range j).map (duR p c)).length e1) ((List.range j).map (duR p c)) xs9 w ((p.rows.take i).map (fun r => sgR r (fn r.1 j))) z ∧ i ≤ p.rows.length) 0 (.slice none 0 0) [] (⟨hG3.rebase.two, Nat.zero_le _⟩) sub_auto ?_
       rintro i w z H5 ⟨hK, hi⟩
       obtain ⟨F1, f1, rfl⟩ := hK.form'
       have hl13 := hl01.trans hG3.base
       have hl05 := hl13.trans hK.le
       have htl2 : ((p.rows.take i).map (fun r => sgR r (fn r.1 j))).length = i := by simp; omega
       refine vc_sr ?_
       refine vco_run tbOk 1 rfl ?_
       refine vco_k [1, 2, 4, 7, 8, 10, 11, 67, 68, 85, 86, 87] ?_
       refine vc_seq ?_
       refine vc_cond rfl (fun hb => ?_) (fun hb => ?_)
       ·
        have him : i < p.rows.length := by simpa using hb
        obtain ⟨r, hr⟩ : ∃ r, p.rows[i]? = some r := ⟨_, List.getElem?_eq_getElem him⟩
        obtain ⟨A0, c0, f, A1, m1, c1, A2, m2, c2, hsg, hsl, hraw, hrx⟩ := SlV.segR hxR hr
        have hrn1 : r.1.length = p.free.length := (hok.row i r hr).1
        obtain ⟨q2, hqk2⟩ : ∃ q, r.1[j]? = some q := ⟨_, List.getElem?_eq_getElem (by omega)⟩
        have hfa : fn r.1 j = q2 := fn_get hqk2
        obtain ⟨A0', c0', x0, e0, hc0, hr0, he0⟩ := id hsl
        cases e0
        obtain ⟨g6, G1, n1, o1, G2, n2, o2, hsg6, hraw6, hqx2⟩ := SlV.seg3 he0 hqk2
        refine vc_skip ?_
        refine vc_keep [1, 2, 4, 7, 8, 10, 11, 67, 68, 85, 86] rfl ?_
        refine vc_seq ?_
        refine vc_block ?_
        refine vc_sr ?_
        refine vco_run tbOk 2 rfl ?_
        refine vco_k [1, 2, 4, 7, 8, 10, 11, 12, 67, 68, 85, 86] ?_
        refine vc_draw .drawB [0, 1, 2, 3, 4, 5, 6, 7, 8, 9, 10, 11, 12, 13, 14, 15, 16, 17, 18, 19, 20, 21] follows (by kernel_rfl) ?_
        refine vco_run tbOk 5 rfl ?_
        refine vco_atf tbOk rfl rfl rfl rfl rfl rfl rfl (hrR.le hl05) (hrx 1 _ rfl) (by omega) (by omega) fun _ _ => ?_
        refine vco_run tbOk 3 rfl ?_
        refine vco_atf tbOk rfl rfl rfl rfl rfl rfl rfl (hrR.le hl05) (hrx 0 _ rfl) (by omega) (by omega) fun _ _ => ?_
        refine vco_run tbOk 1 rfl ?_
        refine vco_at_st (vs := [.bool g6, .slice G1 n1 o1, .slice G2 n2 o2]) tbOk rfl rfl rfl rfl (hr0.le hl05) rfl (by decide) hqx2 (by omega) (by omega) fun _ => ?_
        refine vco_callM rfl rfl (hK.call (rTurned_ok (t := ⟨g6, G1, n1, o1, G2, n2, o2⟩) (r := r) (hraw6.le (hl13.trans hK.base)) (by omega))) (fun _ _ h => h.le fun _ _ h => h.1) ?_
        rintro _ H6 hF6
        have hK6 := hK.framed (rowUp (N + 2)) canUp hF6 fun _ _ h => h.1
        obtain ⟨⟨_, t6, rfl, hq6⟩, _⟩ := hF6
        rw [← hfa] at hq6
        refine vco_build Tryz.underlying26 el34 rfl rfl rfl rfl rfl rfl rfl ?_
        intro gc hgc
        have hK6b := hK6.ins (rowUp (N + 2)) canUp (whole (cellsL [t6.v]) 34) hgc
        refine vco_append Tryz.underlying26 el34 rfl rfl hK6b.own' (rd_ins _ _ _ _ _ _) rfl (one_rat _ _ _ _ _ _ _) (by rw [htl2]; omega) (by rw [htl2]; omega) ?_
        intro v7 H7 ha7
        have hK7 := hK6b.append' (rowUp (N + 2)) canUp (j := [sgR r (fn r.1 j)]) (by simp) ha7 (els_one (canUp _ _ _ _ (rem_mono _ (Heap.le_ins _ hgc)) (show CanP _ [_, _, _] _ from hq6)) rfl)
        obtain ⟨F7, f7, rfl⟩ := hK7.form'
        refine vco_run tbOk 1 rfl ?_
        obtain ⟨ti, hti, htz⟩ := sz26; refine vco_bstore (.inr rfl) rfl rfl rfl hti htz rfl rfl rfl ?_
        refine vco_end ?_
        refine vc_keep [1, 2, 4, 7, 8, 10, 11, 67, 68, 85, 86] rfl ?_
        refine vc_region rfl ?_
        refine vco_add rfl rfl ⟨by omega, by omega⟩ ?_
        refine vco_run tbOk 1 rfl ?_
        refine vco_end ?_
        exact ⟨i + 1, _, _, by omega, sub_auto, by rw [tms hr]; exact hK7, by omega⟩
       ·
        have hb : p.rows.length ≤ i := by simpa using hb
        obtain rfl : i = p.rows.length := by omega
        rw [List.take_length, show p.rows.map (fun r => sgR r (fn r.1 j)) = duC p j from rfl] at hK
        obtain ⟨hG6, hCf⟩ := hK.one (rowUp (N + 2)) canUp
        have hG7 := hG6.down hG3.base
        have hCr := hCf.can_rat (N := N + 2) (fun q hq => by
         obtain ⟨r, hr, rfl⟩ := List.mem_map.1 hq
         rw [sgR_sz]
         exact fn_size (hpz r hr).1 (by obtain ⟨i, hi⟩ := List.getElem?_of_mem hr; have h9 := (hok.row i r hi).1; omega))
        rw [show ((p.rows.take p.rows.length).map (fun r => sgR r (fn r.1 j))).length = p.rows.length from by simp]
        have hlC : (duC p j).length = p.rows.length := by simp [duC]
        rw [hlC] at hCr
        have hRow : RowP (N + 2) (rem H5 (blk (.slice E1 ((List.range j).map (duR p c)).length e1))) [.slice F1 p.rows.length f1, .int .i64 rl, .bool t3.f, .slice t3.A1 t3.m1 t3.c1, .slice t3.A2 t3.m2 t3.c2] (duR p c j) := by
         refine ⟨_, _, _, _, by rw [hrl, ← hfb]; rfl, hCr, ?_⟩
         show RawV _ _ (fn c j) _
         rw [hfq]
         exact ((CanV.raw hq3).mono (by omega)).le hG6.base
        refine vc_exit ?_
        refine vc_keep [1, 2, 4, 7, 8, 11, 67, 68] rfl ?_
        refine vc_region rfl ?_
        refine vco_run tbOk 3 rfl ?_
        refine vco_build Tryz.underlying23 el46 rfl rfl rfl rfl rfl rfl rfl ?_
        intro gd hgd
        have hG8 := hG7.ins (rowUp (N + 2)) (whole (cellsL [.agg #[.slice F1 p.rows.length f1, .int .i64 rl, .bool t3.f, .slice t3.A1 t3.m1 t3.c1, .slice t3.A2 t3.m2 t3.c2]]) 46) hgd
        refine vco_append Tryz.underlying23 el46 rfl rfl hG8.own (rd_ins _ _ _ _ _ _) rfl (one_row _ _ _ _ _ _ _ _ _ _ _) (by rw [htl]; omega) (by rw [htl]; omega) ?_
        intro v9 H9 ha9
        have hG9 := hG8.append (rowUp (N + 2)) (k := [duR p c j]) (by simp) ha9 (els_one (rowUp (N + 2) _ _ _ _ (rem_mono _ (Heap.le_ins _ hgd)) hRow) rfl)
        obtain ⟨F9, f9, rfl⟩ := hG9.form
        refine vco_run tbOk 1 rfl ?_
        obtain ⟨ti, hti, htz⟩ := sz23; refine vco_bstore (.inr rfl) rfl rfl rfl hti htz rfl rfl rfl ?_
        refine vco_end ?_
        refine vc_keep [1, 2, 4, 7, 8, 67, 68] rfl ?_
        refine vc_region rfl ?_
        refine vco_add rfl rfl ⟨by omega, by omega⟩ ?_
        refine vco_run tbOk 1 rfl ?_
        refine vco_end ?_
        exact ⟨j + 1, _, _, by omega, sub_auto, by rw [range_snoc]; exact hG9, by omega⟩
     ·
      have hb : p.free.length ≤ j := by simpa using hb
      obtain rfl : j = p.free.length := by omega
      refine vc_exit ?_
      refine vc_keep [4, 7, 8] rfl ?_
      refine vc_sr ?_
      refine vco_run tbOk 2 rfl ?_
      obtain ⟨ti, hti, htz⟩ := sz25; refine vco_bstore (.inl ⟨rfl, rfl⟩) rfl rfl rfl hti htz rfl rfl rfl ?_
      refine vco_run tbOk 2 rfl ?_
      refine vco_k [4, 5, 6] ?_
      obtain ⟨ri0, rhi0, rhz0⟩ := sz25; refine vc_ret ⟨.inr rfl, _, .agg rfl Tryz.underlying25 rhi0 rhz0 (.tmp rfl (.tmp rfl (.nil))), ?_⟩
      exact ⟨hl02, _, _, _, _, _, _, _, _, _, 0, rfl, .inr (.inr (.inr ⟨hok, hcl, hm4, rfl, ⟨_, _, rfl, hFr.le boolUp hG.le, hG.sl (rowUp (N + 2))⟩, hOb.le (ratUp (N + 2)) hG.le⟩))⟩
end Go.Eng
