/- SimplexTurns: the law's walk. -/
import Derived.Test.YtfkeccepnppjnaaGreatA11
import Derived.Test.YtfkeccepnppjnaaGreatCat
import Derived.Test.YtfkeccepnppjnaaGreatRot
set_option linter.unusedVariables false
namespace Go.Eng
open Go.Proofs Num Lp
theorem rot_map {α β : Type} (f : α → β) (s : Nat) (l : List α) : rot s (l.map f) = (rot s l).map f := by unfold rot; rw [List.map_append, List.map_drop, List.map_take]
theorem ProgV.parts {N : Nat} {H : Heap} {Af Ar : Option Addr} {nf cf nr cr : Nat} {p : Prg} (h : ProgV N H (.agg #[.slice Af nf cf, .slice Ar nr cr]) p) : SlV BoolP 1 H (.slice Af nf cf) p.free ∧ SlV (RowP N) 5 H (.slice Ar nr cr) p.rows := by
  obtain ⟨fv, rv, e, h1, h2⟩ := h
  simp only [Value.agg.injEq, Array.mk.injEq, List.cons.injEq, and_true] at e
  obtain ⟨rfl, rfl⟩ := e
  exact ⟨h1, h2⟩
theorem placeAny_ok {H : Heap} {x : Int} {n : Nat} (hx : 0 ≤ x) (hx2 : x ≤ 255) (hn : n ≤ 1000000) :
  Fn Tryz.prog 31 #[.int .u8 x, .int .i64 (n : Int)] H (fun v H' => Heap.le H H' ∧ H' = H ∧ ∃ k : Nat, v = .int .i64 (k : Int) ∧ k ≤ n ∧ (0 < n → k < n)) := by
 refine fn_intro (args := [_, _]) Tryz.func31 rfl rfl Tryz.ntmps31 rfl rfl fun w0 => ?_
 refine vc_keep [0, 1] rfl ?_
 refine vc_sr ?_
 refine vco_run tbOk 1 rfl ?_
 refine vco_k [0, 1] ?_
 refine vc_seq ?_
 refine vc_sr ?_
 refine vco_run tbOk 2 rfl ?_
 refine vco_k [0, 1, 6] ?_
 refine vc_cond rfl (fun hb => ?_) (fun hb => ?_)
 ·
  have hb : (n : Int) < 1 := by simpa using hb
  refine vc_sr ?_
  refine vco_run tbOk 1 rfl ?_
  refine vco_k [4] ?_
  refine vc_ret ⟨.inr rfl, _, .tmp rfl (.nil), ?_⟩
  exact ⟨.refl _, rfl, 0, rfl, Nat.zero_le _, fun h => by omega⟩
 ·
  have hb : 1 ≤ (n : Int) := by simpa using hb
  refine vc_skip ?_
  refine vc_keep [0, 1] rfl ?_
  refine vc_sr ?_
  refine vco_run tbOk 1 rfl ?_
  refine vco_conv tbOk rfl rfl rfl ⟨by omega, by omega⟩ ?_
  refine vco_run tbOk 1 rfl ?_
  refine vco_rem rfl rfl (by omega) (by omega) ?_
  refine vco_run tbOk 1 rfl ?_
  refine vco_k [4] ?_
  refine vc_ret ⟨.inr rfl, _, .tmp rfl (.nil), ?_⟩
  have h1 : 0 ≤ x % (n : Int) := Int.emod_nonneg _ (by omega)
  have h2 : x % (n : Int) < n := Int.emod_lt_of_pos _ (by omega)
  exact ⟨.refl _, rfl, (x % (n : Int)).toNat, by rw [Int.toNat_of_nonneg h1]; rfl, by omega, fun _ => by omega⟩
theorem turns_ok {H : Heap} {v cv : Value} {p : Prg} {c : List Rat} {N : Nat} {a b : Int} (hp : ProgV N H v p) (hc : SlV (RatP N) 3 H cv c) (ha0 : 0 ≤ a) (ha1 : a ≤ 255) (hb0 : 0 ≤ b) (hb1 : b ≤ 255) :
  Fn Tryz.prog 8 #[v, cv, .int .u8 a, .int .u8 b] H (fun v H' => Heap.le H H' ∧ v = .bool true) := by
 obtain ⟨fv, rv0, rfl, hfv, hrv0⟩ := id hp
 obtain ⟨Af, cf, xf, rfl, hrF, hxF⟩ := hfv.one
 obtain ⟨Ar, cr, xr, rfl, hcr, hrR, hxR⟩ := id hrv0
 obtain ⟨Ac, cc, xc, rfl, hcc, hrc, hec⟩ := id hc
 refine fn_intro (args := [_, _, _, _]) Tryz.func8 rfl rfl Tryz.ntmps8 rfl rfl fun w0 => ?_
 refine vc_keep [0, 1, 2, 3] rfl ?_
 refine vc_sr ?_
 refine vco_box rfl rfl ?_
 refine vco_run tbOk 1 rfl ?_
 refine vco_k [1, 2, 3, 4] ?_
 refine vc_seq ?_
 refine vc_sr ?_
 refine vco_call rfl rfl (sane_ok) ?_
 rintro _ H1 ⟨hl1, rfl⟩
 refine vco_run tbOk 1 rfl ?_
 refine vco_k [1, 2, 3, 4, 20] ?_
 refine vc_cond_f rfl ?_
 refine vc_skip ?_
 refine vc_keep [1, 2, 3, 4] rfl ?_
 refine vc_seq ?_
 refine vc_sr ?_
 refine vco_run tbOk 2 rfl ?_
 refine vco_call rfl rfl (solvable_ok (hp.le hl1) (hc.le (ratUp N) hl1)) ?_
 rintro _ H2 ⟨hl2, b2, rfl, hb2⟩
 have h02 := hl1.trans hl2
 refine vco_run tbOk 1 rfl ?_
 refine vco_k [1, 2, 3, 4, 24] ?_
 refine vc_cond rfl (fun hb => ?_) (fun hb => ?_)
 ·
  skip
  refine vc_sr ?_
  refine vco_run tbOk 1 rfl ?_
  refine vco_k [8] ?_
  refine vc_ret ⟨.inr rfl, _, .tmp rfl (.nil), ?_⟩
  exact ⟨h02, rfl⟩
 ·
  have hs := hb2 (by simpa using hb)
  have hn5 := hs.sml.cols
  have hm6 := hs.sml.rows
  have hcl := hs.len
  obtain ⟨hF9, hR9⟩ := hs.sml.prog.parts
  have hV9 := hs.vec
  have hcF := hF9.cap
  refine vc_skip ?_
  refine vc_keep [1, 2, 3, 4] rfl ?_
  refine vc_sd .drawB [0, 1, 2, 3, 5, 6, 7, 8, 4, 9, 10, 11] follows (by kernel_rfl) ?_
  refine vco_run tbOk 8 rfl ?_
  refine vco_callM rfl rfl (placeAny_ok ha0 ha1 (by omega)) (fun _ _ h => by first | exact h.le | exact h.1) ?_
  rintro _ H3 ⟨_, e3, k, rfl, hk, hk2⟩
  rw [e3]
  refine vco_callM rfl rfl (placeAny_ok hb0 hb1 (by omega)) (fun _ _ h => by first | exact h.le | exact h.1) ?_
  rintro _ H4 ⟨_, e4, s, rfl, hsn, hsn2⟩
  rw [e4]
  refine vco_run tbOk 2 rfl ?_
  refine vco_k [1, 4, 9, 10] ?_
  refine vc_sd .drawB [0, 1, 2, 3, 5, 6, 7, 8, 4, 9, 10, 11, 12] follows (by kernel_rfl) ?_
  refine vco_run tbOk 3 rfl ?_
  refine vco_slice tbOk rfl rfl ((.inr ⟨_, _, rfl, rfl⟩)) ((.inl ⟨rfl, rfl⟩)) (by omega) (by omega) ?_
  refine vco_run tbOk 3 rfl ?_
  refine vco_slice tbOk rfl rfl ((.inl ⟨rfl, rfl⟩)) ((.inr ⟨_, _, rfl, rfl⟩)) (by omega) (by omega) ?_
  refine vco_app boolUp oneBool (by decide) Tryz.underlying22 el4 rfl rfl (gro_nil H2) (by rw [blk_nil, rem_nil]; exact hF9.from hsn) (by rw [List.length_nil, List.length_drop]; omega) (by rw [List.length_nil, List.length_drop]; omega) ?_
  intro v5 H5 y5 hG5 _
  refine vco_app boolUp oneBool (by decide) Tryz.underlying22 el4 rfl rfl hG5 ((hF9.le boolUp hG5.base).upto hsn) (by rw [List.nil_append, List.length_drop, List.length_take]; omega) (by rw [List.nil_append, List.length_drop, List.length_take]; omega) ?_
  intro v6 H6 y6 hG6 _
  have hQF := hG6.sl boolUp
  have hl26 := hG6.le
  rw [List.nil_append] at hQF
  replace hQF : SlV BoolP 1 H6 v6 (rot s p.free) := hQF
  obtain ⟨E1, d1, x1, rfl, hd1, hrd1, hxd1⟩ := id hQF
  clear hG5 hG6
  refine vco_st tbOk rfl el25 rfl rfl ?_
  refine vco_alloc el25 rfl ?_
  obtain ⟨ti, hti, htz⟩ := sz25; refine vco_bstore (.inl ⟨rfl, rfl⟩) rfl rfl rfl hti htz rfl rfl rfl ?_
  refine vco_k [1, 4, 9, 10, 11] ?_
  refine vc_seq ?_
  refine vc_sd .drawB [0, 1, 2, 3, 5, 6, 7, 8, 11, 4, 9, 10] follows (by kernel_rfl) ?_
  refine vco_run tbOk 3 rfl ?_
  refine vco_slice tbOk rfl rfl ((.inr ⟨_, _, rfl, rfl⟩)) ((.inl ⟨rfl, rfl⟩)) (by omega) (by omega) ?_
  refine vco_run tbOk 3 rfl ?_
  refine vco_slice tbOk rfl rfl ((.inl ⟨rfl, rfl⟩)) ((.inr ⟨_, _, rfl, rfl⟩)) (by omega) (by omega) ?_
  refine vco_run tbOk 1 rfl ?_
  refine vco_app (rowUp 2) (oneRow 2) (by decide) Tryz.underlying23 el46 rfl rfl (gro_nil H6) (by rw [blk_nil, rem_nil]; exact (hR9.le (rowUp 2) hl26).from hk) (by rw [List.length_nil, List.length_drop]; omega) (by rw [List.length_nil, List.length_drop]; omega) ?_
  intro v7 H7 y7 hG7 _
  refine vco_app (rowUp 2) (oneRow 2) (by decide) Tryz.underlying23 el46 rfl rfl hG7 ((hR9.le (rowUp 2) (hl26.trans hG7.base)).upto hk) (by rw [List.nil_append, List.length_drop, List.length_take]; omega) (by rw [List.nil_append, List.length_drop, List.length_take]; omega) ?_
  intro v8 H8 y8 hG8 _
  have hQR := hG8.sl (rowUp 2)
  have hl68 := hG8.le
  rw [List.nil_append] at hQR
  replace hQR : SlV (RowP 2) 5 H8 v8 (rot k p.rows) := hQR
  obtain ⟨E2, d2, x2, rfl, hd2, hrd2, hxd2⟩ := id hQR
  have hkl : (rot k p.rows).length = p.rows.length := rot_len hk
  rw [hkl]
  clear hG7 hG8
  refine vco_run tbOk 1 rfl ?_
  refine vco_k [1, 4, 10, 11, 55, 56, 57] ?_
  refine vc_block ?_
  refine vc_loop3 (fun (i : Nat) (w : Value) (xs : List Value) => p.rows.length - i) (fun (i : Nat) (w : Value) (xs : List Value) => put (put (put (put (put (put (put (emp) 1 (.val (.slice Ac c.length cc))) 4 (.box [.slice Af p.free.length cf, .slice Ar p.rows.length cr])) 10 (.val (.int .i64 (s : Int)))) 11 (.box [.slice E1 (rot s p.free).length d1, w])) 55 (.val (.slice E2 p.rows.length d2))) 56 (.val (.int .i64 (p.rows.length : Int)))) 57 (.val (.int .i64 (i : Int)))) (fun (i : Nat) (w : Value) (xs : List Value) H' => Gro (RowP 2) 46 5 H8 H' w (((rot k p.rows).take i).map (fun r : List Rat × Int × Rat => (rot s r.1, r.2.1, r.2.2))) xs ∧ i ≤ p.rows.length) 0 (.slice none 0 0) [] (⟨gro_nil H8, Nat.zero_le _⟩) sub_auto ?_
  rintro i w xs H9 ⟨hG, hi⟩
  obtain ⟨W, cw, rfl⟩ := hG.form
  have htl : (((rot k p.rows).take i).map (fun r : List Rat × Int × Rat => (rot s r.1, r.2.1, r.2.2))).length = i := by rw [List.length_map, List.length_take, hkl]; omega
  refine vc_sr ?_
  refine vco_run tbOk 1 rfl ?_
  refine vco_k [1, 4, 10, 11, 55, 56, 57, 58] ?_
  refine vc_seq ?_
  refine vc_cond rfl (fun hb => ?_) (fun hb => ?_)
  ·
   have him : i < p.rows.length := by simpa using hb
   obtain ⟨r, hr⟩ : ∃ r, (rot k p.rows)[i]? = some r := ⟨_, List.getElem?_eq_getElem (by omega)⟩
   have hrn : r.1.length = p.free.length := by
    have h9 := hr
    rw [rot_get hk him] at h9
    exact (hs.ok.row _ _ h9).1
   obtain ⟨A0, c0, f, A1, m1, c1, A2, m2, c2, hsg, hsl, hraw, hrx⟩ := SlV.segR hxd2 hr
   have hc0 := hsl.cap
   have hK0 := hG.rebase.two (Q := RatP 2) (e' := 34) (sz' := 3)
   refine vc_skip ?_
   refine vc_keep [1, 4, 10, 11, 55, 56, 57] rfl ?_
   refine vc_seq ?_
   refine vc_block ?_
   refine vc_sr ?_
   refine vco_at_st (vs := [.slice A0 r.1.length c0, .int .i64 r.2.1, .bool f, .slice A1 m1 c1, .slice A2 m2 c2]) tbOk rfl rfl rfl rfl (hrd2.le hG.le) rfl (by decide) hrx (by omega) (by omega) fun _ => ?_
   refine vco_alloc el46 rfl ?_
   obtain ⟨ti, hti, htz⟩ := sz46; refine vco_bstore (.inl ⟨rfl, rfl⟩) rfl rfl rfl hti htz rfl rfl rfl ?_
   refine vco_k [1, 4, 10, 11, 13, 55, 56, 57] ?_
   refine vc_draw .drawB [0, 1, 2, 3, 4, 5, 7, 8, 9, 10, 12, 13, 14, 15, 6, 11, 16, 17, 18, 19, 20] follows (by kernel_rfl) ?_
   refine vco_run tbOk 5 rfl ?_
   refine vco_slice tbOk rfl rfl ((.inr ⟨_, _, rfl, rfl⟩)) ((.inl ⟨rfl, rfl⟩)) (by omega) (by omega) ?_
   refine vco_run tbOk 3 rfl ?_
   refine vco_slice tbOk rfl rfl ((.inl ⟨rfl, rfl⟩)) ((.inr ⟨_, _, rfl, rfl⟩)) (by omega) (by omega) ?_
   refine vco_run tbOk 4 rfl ?_
   refine vco_app2 (rowUp 2) (ratUp 2) (oneRat 2) (by decide) Tryz.underlying26 el34 rfl rfl hK0 ((hsl.le (ratUp 2) (hG.base.trans hK0.base)).from (by omega)) (by rw [List.length_nil, List.length_drop]; omega) (by rw [List.length_nil, List.length_drop]; omega) ?_
   intro v10 H10 y10 hK1
   refine vco_app2 (rowUp 2) (ratUp 2) (oneRat 2) (by decide) Tryz.underlying26 el34 rfl rfl hK1 ((hsl.le (ratUp 2) (hG.base.trans hK1.base)).upto (by omega)) (by rw [List.nil_append, List.length_drop, List.length_take]; omega) (by rw [List.nil_append, List.length_drop, List.length_take]; omega) ?_
   intro v11 H11 y11 hK2
   rw [List.nil_append] at hK2
   obtain ⟨hG1, hs5⟩ := hK2.one (rowUp 2) (ratUp 2)
   replace hs5 : SlV (RatP 2) 3 _ v11 (rot s r.1) := hs5
   obtain ⟨A5, c5, _, rfl, _⟩ := id hs5
   have hRow : RowP 2 (rem H11 (blk (.slice W (((rot k p.rows).take i).map (fun r : List Rat × Int × Rat => (rot s r.1, r.2.1, r.2.2))).length cw))) [.slice A5 (rot s r.1).length c5, .int .i64 r.2.1, .bool f, .slice A1 m1 c1, .slice A2 m2 c2] (rot s r.1, r.2.1, r.2.2) := ⟨_, _, _, _, rfl, hs5, hraw.le (hG.base.trans hG1.base)⟩
   have hG7 := hG1.down hG.base
   refine vco_st tbOk rfl el46 rfl rfl ?_
   refine vco_build Tryz.underlying23 el46 rfl rfl rfl rfl rfl rfl rfl ?_
   intro gd hgd
   have hG8 := hG7.ins (rowUp 2) (whole (cellsL [.agg #[.slice A5 (rot s r.1).length c5, .int .i64 r.2.1, .bool f, .slice A1 m1 c1, .slice A2 m2 c2]]) 46) hgd
   refine vco_append Tryz.underlying23 el46 rfl rfl hG8.own (rd_ins _ _ _ _ _ _) rfl (one_row _ _ _ _ _ _ _ _ _ _ _) (by rw [htl]; omega) (by rw [htl]; omega) ?_
   intro v12 H12 ha12
   have hG9 := hG8.append (rowUp 2) (k := [(rot s r.1, r.2.1, r.2.2)]) (by simp) ha12 (els_one (rowUp 2 _ _ _ _ (rem_mono _ (Heap.le_ins _ hgd)) hRow) rfl)
   obtain ⟨F9, g9, rfl⟩ := hG9.form
   refine vco_run tbOk 1 rfl ?_
   obtain ⟨ti, hti, htz⟩ := sz23; refine vco_bstore (.inr rfl) rfl rfl rfl hti htz rfl rfl rfl ?_
   refine vco_end ?_
   refine vc_keep [1, 4, 10, 11, 55, 56, 57] rfl ?_
   refine vc_region rfl ?_
   refine vco_add rfl rfl ⟨by omega, by omega⟩ ?_
   refine vco_run tbOk 1 rfl ?_
   refine vco_end ?_
   exact ⟨i + 1, _, _, by omega, sub_auto, by rw [tms hr]; exact hG9, by omega⟩
  ·
   have hb : p.rows.length ≤ i := by simpa using hb
   obtain rfl : i = p.rows.length := by omega
   have hR := hG.sl (rowUp 2)
   rw [← hkl, List.take_length] at hR
   have hl29 := hl26.trans (hl68.trans hG.le)
   have hQ : ProgV 2 H9 (.agg #[.slice E1 (rot s p.free).length d1, .slice W (((rot k p.rows).take p.rows.length).map (fun r : List Rat × Int × Rat => (rot s r.1, r.2.1, r.2.2))).length cw]) (rotP k s p) := ⟨_, _, rfl, hQF.le boolUp (hl68.trans hG.le), by rw [← hkl, List.take_length]; exact hR⟩
   generalize (((rot k p.rows).take p.rows.length).map (fun r : List Rat × Int × Rat => (rot s r.1, r.2.1, r.2.2))).length = wl at hQ
   clear hG
   refine vc_exit ?_
   refine vc_keep [1, 4, 10, 11] rfl ?_
   refine vc_sd .drawB [0, 1, 2, 4, 5, 6, 3, 7, 8] follows (by kernel_rfl) ?_
   refine vco_run tbOk 2 rfl ?_
   refine vco_slice tbOk rfl rfl ((.inr ⟨_, _, rfl, rfl⟩)) ((.inl ⟨rfl, rfl⟩)) (by omega) (by omega) ?_
   refine vco_run tbOk 2 rfl ?_
   refine vco_slice tbOk rfl rfl ((.inl ⟨rfl, rfl⟩)) ((.inr ⟨_, _, rfl, rfl⟩)) (by omega) (by omega) ?_
   refine vco_app (ratUp 2) (oneRat 2) (by decide) Tryz.underlying26 el34 rfl rfl (gro_nil H9) (by rw [blk_nil, rem_nil]; exact (hV9.le (ratUp 2) hl29).from (by omega)) (by rw [List.length_nil, List.length_drop]; omega) (by rw [List.length_nil, List.length_drop]; omega) ?_
   intro v13 H13 y13 hG13 _
   refine vco_app (ratUp 2) (oneRat 2) (by decide) Tryz.underlying26 el34 rfl rfl hG13 ((hV9.le (ratUp 2) (hl29.trans hG13.base)).upto (by omega)) (by rw [List.nil_append, List.length_drop, List.length_take]; omega) (by rw [List.nil_append, List.length_drop, List.length_take]; omega) ?_
   intro v14 H14 y14 hG14 _
   have hD := hG14.sl (ratUp 2)
   have hlD := hG14.le
   rw [List.nil_append] at hD
   replace hD : SlV (RatP 2) 3 H14 v14 (rot s c) := hD
   obtain ⟨E3, d3, x3, rfl, _⟩ := id hD
   clear hG13 hG14
   have h2E := hl29.trans hlD
   refine vco_run tbOk 1 rfl ?_
   refine vco_k [1, 4, 11, 14] ?_
   refine vc_sr ?_
   refine vco_run tbOk 2 rfl ?_
   refine vco_call rfl rfl (minS_ok (hs.le h2E).few hs.ok hs.len) ?_
   rintro _ H5 ⟨hl5, S, f5, B51, m51, e51, B52, m52, e52, B5x, k5x, e5x, B5d, k5d, e5d, B5r, k5r, e5r, rfl, hchk5, hval5, hsx5, hsd5, hsr5⟩
   refine vco_run tbOk 3 rfl ?_
   refine vco_alloc el36 rfl ?_
   obtain ⟨ti, hti, htz⟩ := sz36; refine vco_bstore (.inl ⟨rfl, rfl⟩) rfl rfl rfl hti htz rfl rfl rfl ?_
   refine vco_run tbOk 1 rfl ?_
   refine vco_k [11, 14, 15, 16] ?_
   refine vc_sr ?_
   refine vco_run tbOk 2 rfl ?_
   refine vco_call rfl rfl (minS_ok (N := 2) ⟨(hQ.le hlD).le hl5, hD.le (ratUp 2) hl5, by decide, by rw [rot_len (by omega)]; omega, by show ((rot k p.rows).map _).length ≤ 7; rw [List.length_map, hkl]; omega, (fun r hr => by have h9 := (rotP_ok hs.ok hsn hk); obtain ⟨i9, hi9⟩ := List.getElem?_of_mem hr; have h8 := (h9.row i9 r hi9).1; rw [h8]; show (rot s p.free).length ≤ 7; rw [rot_len hsn]; omega)⟩ (rotP_ok hs.ok hsn hk) (by show (rot s c).length = (rot s p.free).length; rw [rot_len hsn, rot_len (by omega)]; exact hcl)) ?_
   rintro _ H7 ⟨hl7, T, f7, B71, m71, e71, B72, m72, e72, B7x, k7x, e7x, B7d, k7d, e7d, B7r, k7r, e7r, rfl, hchk7, hval7, hsx7, hsd7, hsr7⟩
   refine vco_run tbOk 3 rfl ?_
   refine vco_alloc el36 rfl ?_
   obtain ⟨ti, hti, htz⟩ := sz36; refine vco_bstore (.inl ⟨rfl, rfl⟩) rfl rfl rfl hti htz rfl rfl rfl ?_
   refine vco_run tbOk 1 rfl ?_
   refine vco_k [15, 16, 17, 18] ?_
   obtain ⟨ht1, ht2⟩ := rotP_turn hs.ok hsn hk hcl
   obtain ⟨hst, hvl⟩ := sem_same ⟨fun h => ht2.inf h, fun h => ht1.inf h⟩ (fun _ h => ht1.opt ht2 h) (fun h => ht1.unb h) hchk5.sem hchk7.sem
   refine vc_sr ?_
   refine vco_run tbOk 11 rfl ?_
   refine vco_cmp true rfl rfl (ceq_t hst) ?_
   refine vco_run tbOk 6 rfl ?_
   refine vco_call rfl rfl ((rCmp_ok (N := MX) (hval5.le hl7) hval7 (by decide)).mono fun v H' h => (⟨h.1, by rw [h.2, hvl, cmpQ_self]⟩ : Heap.le H7 H' ∧ v = .int .i64 0)) ?_
   rintro _ H8' ⟨hl8, rfl⟩
   refine vco_run tbOk 3 rfl ?_
   refine vco_k [8] ?_
   refine vc_ret ⟨.inr rfl, _, .tmp rfl (.nil), ?_⟩
   exact ⟨h02.trans (h2E.trans (hl5.trans (hl7.trans hl8))), rfl⟩
end Go.Eng
