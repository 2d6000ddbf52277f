/- SimplexForms: the law's walk. -/
import Derived.Test.YtfkeccepnppjnaaGreatA11
import Derived.Test.YtfkeccepnppjnaaGreatLoo
set_option linter.unusedVariables false
namespace Go.Eng
open Go.Proofs Num Lp
theorem one_row (A0 : Option Addr) (k0 c0 : Nat) (z : Int) (f : Bool) (A A' : Option Addr) (k c k' c' : Nat) : ∀ u, u ∈ [Value.slice A0 k0 c0, .int .i64 z, .bool f, .slice A k c, .slice A' k' c'] → u.oneCell' = true := fun u hu => by
  simp only [List.mem_cons, List.not_mem_nil, or_false] at hu
  rcases hu with rfl | rfl | rfl | rfl | rfl <;> rfl
theorem rat_one {N : Nat} {H : Heap} {g : Nat} {t : RC} {q : Rat} (hg : H g = none) (h : RawV H t.v q N) : SlV (RatP N) 3 (ins H g (whole (cellsL [t.v]) 34)) (.slice (some ⟨g, 0, none⟩) 1 1) [q] :=
  ⟨_, 1, _, rfl, Nat.le_refl _, rd_ins _ _ _ _ _ _, els_one (P := RatP N _) (vs := [.bool t.f, .slice t.A1 t.m1 t.c1, .slice t.A2 t.m2 t.c2]) (RawV.le h (Heap.le_ins _ hg)) rfl⟩
theorem forms_ok {H : Heap} {v cv : Value} {p : Prg} {c : List Rat} {N : Nat} {k : Int} (hp : ProgV N H v p) (hc : SlV (RatP N) 3 H cv c) (hk0 : 0 ≤ k) (hk1 : k ≤ 255) :
  Fn Tryz.prog 10 #[v, cv, .int .u8 k] H (fun v H' => Heap.le H H' ∧ v = .bool true) := by
 obtain ⟨fv, rv0, rfl, hfv, hrv0⟩ := id hp
 obtain ⟨Af, cf, xf, rfl, hrF, hxF⟩ := hfv.one
 obtain ⟨Ar, cr, xr, rfl, hcr, hrR, hxR⟩ := id hrv0
 obtain ⟨Ac, cc, xc, rfl, hcc, hrc, hec⟩ := id hc
 refine fn_intro (args := [_, _, _]) Tryz.func10 rfl rfl Tryz.ntmps10 rfl rfl fun w0 => ?_
 refine vc_keep [0, 1, 2] rfl ?_
 refine vc_sr ?_
 refine vco_box rfl rfl ?_
 refine vco_run tbOk 1 rfl ?_
 refine vco_k [1, 2, 3] ?_
 refine vc_seq ?_
 refine vc_sr ?_
 refine vco_call rfl rfl (sane_ok) ?_
 rintro _ H1 ⟨hl1, rfl⟩
 refine vco_run tbOk 1 rfl ?_
 refine vco_k [1, 2, 3, 15] ?_
 refine vc_cond_f rfl ?_
 refine vc_skip ?_
 refine vc_keep [1, 2, 3] rfl ?_
 refine vc_seq ?_
 refine vc_sr ?_
 refine vco_run tbOk 2 rfl ?_
 refine vco_call rfl rfl (solvable_ok (hp.le hl1) (hc.le (ratUp N) hl1)) ?_
 rintro _ H2 ⟨hl2, b2, rfl, hb2⟩
 have h02 := hl1.trans hl2
 refine vco_run tbOk 1 rfl ?_
 refine vco_k [1, 2, 3, 19] ?_
 refine vc_cond rfl (fun hb => ?_) (fun hb => ?_)
 ·
  skip
  refine vc_sr ?_
  refine vco_run tbOk 1 rfl ?_
  refine vco_k [6] ?_
  refine vc_ret ⟨.inr rfl, _, .tmp rfl (.nil), ?_⟩
  exact ⟨h02, rfl⟩
 ·
  have hs := hb2 (by simpa using hb)
  have hn5 := hs.sml.cols
  have hm6 := hs.sml.rows
  have hcl := hs.len
  obtain ⟨fv9, rv9, e9, hfv9, Ar9, cr9, xr9, e10, hcr9, hrR9, hxR9⟩ := id hs.sml.prog
  cases e9
  cases e10
  refine vc_skip ?_
  refine vc_keep [1, 2, 3] rfl ?_
  refine vc_sr ?_
  refine vco_run tbOk 2 rfl ?_
  refine vco_st tbOk rfl el25 rfl rfl ?_
  refine vco_alloc el25 rfl ?_
  obtain ⟨ti, hti, htz⟩ := sz25; refine vco_bstore (.inl ⟨rfl, rfl⟩) rfl rfl rfl hti htz rfl rfl rfl ?_
  refine vco_k [1, 2, 3, 7] ?_
  refine vc_seq ?_
  refine vc_sr ?_
  refine vco_run tbOk 4 rfl ?_
  refine vco_k [1, 2, 3, 7, 24, 25, 26] ?_
  refine vc_block ?_
  refine vc_loop3 (fun (i : Nat) (w : Value) (xs : List Value) => p.rows.length - i) (fun (i : Nat) (w : Value) (xs : List Value) => put (put (put (put (put (put (put (emp) 1 (.val (.slice Ac c.length cc))) 2 (.val (.int .u8 k))) 3 (.box [.slice Af p.free.length cf, .slice Ar p.rows.length cr])) 7 (.box [.slice Af p.free.length cf, w])) 24 (.val (.slice Ar p.rows.length cr))) 25 (.val (.int .i64 (p.rows.length : Int)))) 26 (.val (.int .i64 (i : Int)))) (fun (i : Nat) (w : Value) (xs : List Value) H' => Gro (RowP 5) 46 5 H2 H' w (p.rows.take i) xs ∧ i ≤ p.rows.length) 0 (.slice none 0 0) [] (⟨gro_nil H2, Nat.zero_le _⟩) sub_auto ?_
  rintro i w xs H3 ⟨hG, hi⟩
  obtain ⟨W, cw, rfl⟩ := hG.form
  have htl : (p.rows.take i).length = i := by rw [List.length_take]; omega
  refine vc_sr ?_
  refine vco_run tbOk 1 rfl ?_
  refine vco_k [1, 2, 3, 7, 24, 25, 26, 27] ?_
  refine vc_seq ?_
  refine vc_cond rfl (fun hb => ?_) (fun hb => ?_)
  ·
   have him : i < p.rows.length := by simpa using hb
   obtain ⟨r, hr⟩ : ∃ r, p.rows[i]? = some r := ⟨_, List.getElem?_eq_getElem him⟩
   have hrn := (hs.ok.row i r hr).1
   obtain ⟨A0, c0, f, A1, m1, c1, A2, m2, c2, hsg, hsl, hraw, hrx⟩ := SlV.segR hxR9 hr
   refine vc_skip ?_
   refine vc_keep [1, 2, 3, 7, 24, 25, 26] rfl ?_
   refine vc_seq ?_
   refine vc_block ?_
   refine vc_sr ?_
   refine vco_at_st (vs := [.slice A0 r.1.length c0, .int .i64 r.2.1, .bool f, .slice A1 m1 c1, .slice A2 m2 c2]) tbOk rfl rfl rfl rfl (hrR9.le hG.le) rfl (by decide) hrx (by omega) (by omega) fun _ => ?_
   refine vco_alloc el46 rfl ?_
   obtain ⟨ti, hti, htz⟩ := sz46; refine vco_bstore (.inl ⟨rfl, rfl⟩) rfl rfl rfl hti htz rfl rfl rfl ?_
   refine vco_k [1, 2, 3, 7, 9, 24, 25, 26] ?_
   refine vc_draw .drawB [0, 1, 2, 3, 4, 6, 7, 8, 9, 11, 5, 10, 12, 13, 14, 15, 16, 17, 18, 19] follows (by kernel_rfl) ?_
   refine vco_run tbOk 10 rfl ?_
   refine vco_callM rfl rfl (hG.call (loose_ok (hsl.le (ratUp 2) hG.base) hk0 hk1 (by omega) (by omega))) (fun _ _ h => h.le fun _ _ h => h.1) ?_
   rintro _ H5 hF5
   have hG5 := hG.framed (rowUp 5) hF5 fun _ _ h => h.1
   obtain ⟨⟨_, A5, c5, rfl, hs5⟩, _⟩ := hF5
   refine vco_build Tryz.underlying26 el34 rfl rfl rfl rfl rfl rfl rfl ?_
   intro gb hgb
   have hG6 := hG5.ins (rowUp 5) (whole (cellsL [.agg #[.bool f, .slice A1 m1 c1, .slice A2 m2 c2]]) 34) hgb
   have hgn : ¬ gb ∈ blk (.slice W (p.rows.take i).length cw) := fun hm => hG5.blkne gb hm hgb
   have hb6 : SlV (RatP 2) 3 (rem (ins H5 gb (whole (cellsL [.agg #[.bool f, .slice A1 m1 c1, .slice A2 m2 c2]]) 34)) (blk (.slice W (p.rows.take i).length cw))) (.slice (some ⟨gb, 0, none⟩) 1 1) [r.2.2] := by
    rw [rem_ins_out _ hgn]
    exact rat_one (t := ⟨f, A1, m1, c1, A2, m2, c2⟩) (by rw [rem_out hgn]; exact hgb) (hraw.le hG5.base)
   have hs6 : SlV (RatP 5) 3 (rem (ins H5 gb (whole (cellsL [.agg #[.bool f, .slice A1 m1 c1, .slice A2 m2 c2]]) 34)) (blk (.slice W (p.rows.take i).length cw))) (.slice A5 r.1.length c5) r.1 := by
    rw [rem_ins_out _ hgn]
    exact hs5.le (ratUp 5) (Heap.le_ins _ (by rw [rem_out hgn]; exact hgb))
   refine vco_callM rfl rfl (hG6.call (loose_ok hb6 hk0 hk1 (show 1 ≤ 4000 by omega) (by omega))) (fun _ _ h => h.le fun _ _ h => h.1) ?_
   rintro _ H7 hF7
   have hG7 := hG6.framed (rowUp 5) hF7 fun _ _ h => h.1
   obtain ⟨⟨hl67, A7, c7, rfl, A8, c8, x7, e8, hc7, hr7, hx7⟩, _⟩ := hF7
   cases e8
   obtain ⟨f7, B1, k1, e1, B2, k2, e2, hsg7, hraw7, hqx⟩ := SlV.seg3 hx7 (i := 0) (q := r.2.2) rfl
   have hs7 := hs6.le (ratUp 5) hl67
   have hRow : RowP 5 (rem H7 (blk (.slice W (p.rows.take i).length cw))) [.slice A5 r.1.length c5, .int .i64 r.2.1, .bool f7, .slice B1 k1 e1, .slice B2 k2 e2] r := ⟨_, _, _, _, rfl, hs7, hraw7⟩
   refine vco_at_st (vs := [.bool f7, .slice B1 k1 e1, .slice B2 k2 e2]) tbOk rfl rfl rfl rfl (hr7.le (rem_le _ _)) rfl (by decide) hqx (by omega) (show (0 : Int) < 1 by decide) fun _ => ?_
   refine vco_st tbOk rfl el46 rfl rfl ?_
   refine vco_build Tryz.underlying23 el46 rfl rfl rfl rfl rfl rfl rfl ?_
   intro gd hgd
   have hG8 := hG7.ins (rowUp 5) (whole (cellsL [.agg #[.slice A5 r.1.length c5, .int .i64 r.2.1, .bool f7, .slice B1 k1 e1, .slice B2 k2 e2]]) 46) hgd
   refine vco_append Tryz.underlying23 el46 rfl rfl hG8.own (rd_ins _ _ _ _ _ _) rfl (one_row _ _ _ _ _ _ _ _ _ _ _) (by rw [htl]; omega) (by rw [htl]; omega) ?_
   intro v9 H9 ha9
   have hG9 := hG8.append (rowUp 5) (k := [r]) (by simp) ha9 (els_one (rowUp 5 _ _ _ _ (rem_mono _ (Heap.le_ins _ hgd)) hRow) rfl)
   obtain ⟨F9, g9, rfl⟩ := hG9.form
   refine vco_run tbOk 1 rfl ?_
   obtain ⟨ti, hti, htz⟩ := sz23; refine vco_bstore (.inr rfl) rfl rfl rfl hti htz rfl rfl rfl ?_
   refine vco_end ?_
   refine vc_keep [1, 2, 3, 7, 24, 25, 26] rfl ?_
   refine vc_region rfl ?_
   refine vco_add rfl rfl ⟨by omega, by omega⟩ ?_
   refine vco_run tbOk 1 rfl ?_
   refine vco_end ?_
   exact ⟨i + 1, _, _, by omega, sub_auto, by rw [take_snoc hr]; exact hG9, by omega⟩
  ·
   have hb : p.rows.length ≤ i := by simpa using hb
   obtain rfl : i = p.rows.length := by omega
   rw [List.take_length] at hG
   rw [List.take_length]
   have hR := hG.sl (rowUp 5)
   have hl23 := hG.le
   have hQ : ProgV 5 H3 (.agg #[.slice Af p.free.length cf, .slice W p.rows.length cw]) p := ⟨_, _, rfl, hfv9.le boolUp hl23, hR⟩
   clear hG
   refine vc_exit ?_
   refine vc_keep [1, 2, 3, 7] rfl ?_
   refine vc_sr ?_
   refine vco_run tbOk 2 rfl ?_
   refine vco_call rfl rfl (minS_ok (hs.le hl23).few hs.ok hs.len) ?_
   rintro _ H5 ⟨hl5, S, f5, B51, m51, e51, B52, m52, e52, B5x, k5x, e5x, B5d, k5d, e5d, B5r, k5r, e5r, rfl, hchk5, hval5, hsx5, hsd5, hsr5⟩
   refine vco_run tbOk 3 rfl ?_
   refine vco_alloc el36 rfl ?_
   obtain ⟨ti, hti, htz⟩ := sz36; refine vco_bstore (.inl ⟨rfl, rfl⟩) rfl rfl rfl hti htz rfl rfl rfl ?_
   refine vco_run tbOk 1 rfl ?_
   refine vco_k [1, 2, 7, 10, 11] ?_
   refine vc_sd .drawB [0, 1, 2, 3, 4, 5, 6, 7, 8, 9, 10] follows (by kernel_rfl) ?_
   refine vco_run tbOk 3 rfl ?_
   refine vco_callM rfl rfl (loose_ok ((hs.vec.le (ratUp 2) hl23).le (ratUp 2) hl5) hk0 hk1 (by omega) (by omega)) (fun _ _ h => by first | exact h.le | exact h.1) ?_
   rintro _ H6 ⟨hl6, A6, c6, rfl, hs6⟩
   refine vco_callM rfl rfl (minS_ok (N := 5) ⟨(hQ.le hl5).le hl6, hs6, by decide, by omega, by omega, (hs.le hl23).few.row⟩ hs.ok hs.len) (fun _ _ h => by first | exact h.le | exact h.1) ?_
   rintro _ H7 ⟨hl7, T, f7, B71, m71, e71, B72, m72, e72, B7x, k7x, e7x, B7d, k7d, e7d, B7r, k7r, e7r, rfl, hchk7, hval7, hsx7, hsd7, hsr7⟩
   refine vco_run tbOk 3 rfl ?_
   refine vco_alloc el36 rfl ?_
   obtain ⟨ti, hti, htz⟩ := sz36; refine vco_bstore (.inl ⟨rfl, rfl⟩) rfl rfl rfl hti htz rfl rfl rfl ?_
   refine vco_run tbOk 1 rfl ?_
   refine vco_k [10, 11, 12, 13] ?_
   obtain ⟨hst, hvl⟩ := sem_same Iff.rfl (fun _ h => h) id hchk5.sem hchk7.sem
   have hs57 := hl6.trans hl7
   refine vc_sr ?_
   refine vco_run tbOk 11 rfl ?_
   refine vco_cmp true rfl rfl (ceq_t hst) ?_
   refine vco_run tbOk 6 rfl ?_
   refine vco_call rfl rfl ((rCmp_ok (N := MX) (hval5.le hs57) hval7 (by decide)).mono fun v H' h => (⟨h.1, by rw [h.2, hvl, cmpQ_self]⟩ : Heap.le H7 H' ∧ v = .int .i64 0)) ?_
   rintro _ H8 ⟨hl8, rfl⟩
   refine vco_run tbOk 3 rfl ?_
   refine vco_k [6] ?_
   refine vc_ret ⟨.inr rfl, _, .tmp rfl (.nil), ?_⟩
   exact ⟨h02.trans (hl23.trans (hl5.trans (hs57.trans hl8))), rfl⟩
end Go.Eng
