/- SimplexScales: the law's walk. -/
import Derived.Test.YtfkeccepnppjnaaGreatA12
namespace Go.Eng
open Go.Proofs Num Lp
theorem dot_scale {n : Nat} {c d : Nat → Rat} {k : Rat} (hd : ∀ j, j < n → d j = k * c j) (x : Nat → Rat) : dotN n d x = k * dotN n c x := by
  unfold dotN
  rw [← sumN_mul]
  exact sumN_congr fun j hj => by rw [hd j hj]; grind
theorem opt_scale {p : LP} {c d : Nat → Rat} {k : Rat} (hk : 0 < k) (hd : ∀ j, j < p.n → d j = k * c j) {u : Rat} (h : p.IsOpt c u) : p.IsOpt d (k * u) := by
  obtain ⟨⟨x, hx, e⟩, h2⟩ := h
  refine ⟨⟨x, hx, by rw [dot_scale hd, e]⟩, fun y hy => ?_⟩
  rw [dot_scale hd]
  exact Rat.mul_le_mul_of_nonneg_left (h2 y hy) (Rat.le_of_lt hk)
theorem unb_scale {p : LP} {c d : Nat → Rat} {k : Rat} (hk : 0 < k) (hd : ∀ j, j < p.n → d j = k * c j) (h : p.IsUnb c) : p.IsUnb d := by
  refine ⟨h.1, fun v => ?_⟩
  obtain ⟨x, hx, hlt⟩ := h.2 (v / k)
  refine ⟨x, hx, ?_⟩
  rw [dot_scale hd]
  have h1 : k * dotN p.n c x < k * (v / k) := Rat.mul_lt_mul_of_pos_left hlt hk
  rwa [Rat.mul_comm k (v / k), Rat.div_mul_cancel (by grind)] at h1
theorem rat_div_nat (a b : Int) (hb : 0 < b) : (a : Rat) / (b : Rat) = mkRat a b.toNat := by
  rw [Rat.mkRat_eq_div]
  congr 1
  exact congrArg (fun z : Int => (z : Rat)) (Int.toNat_of_nonneg (by omega)).symm
theorem small_sz {a b : Int} (h1 : 1 ≤ a) (h2 : a ≤ 256) (h3 : 1 ≤ b) (h4 : b ≤ 256) : szQ ((a : Rat) / (b : Rat)) ≤ 1 :=
  szQ_of (n := a) (d := b.toNat) (by omega) (rat_div_nat a b (by omega)) (by rw [B_eq]; omega) (by rw [B_eq]; omega)
theorem small_pos {a b : Int} (h1 : 1 ≤ a) (h3 : 1 ≤ b) : 0 < (a : Rat) / (b : Rat) := by
  have ha : (0 : Rat) < (a : Rat) := by exact_mod_cast (show (0 : Int) < a by omega)
  have hb : (0 : Rat) < (b : Rat) := by exact_mod_cast (show (0 : Int) < b by omega)
  rw [Rat.div_def]
  exact Rat.mul_pos ha (Rat.inv_pos.2 hb)
theorem fn_map_mul {l : List Rat} {k : Rat} (j : Nat) : fn (l.map (fun q => k * q)) j = k * fn l j := by
  unfold fn
  simp only [List.getD, List.getElem?_map]
  cases l[j]? with
  | none => simp
  | some q => rfl
theorem take_map_snoc {α β : Type} {f : α → β} {l : List α} {k : Nat} {z : α} (h : l[k]? = some z) : (l.take (k + 1)).map f = (l.take k).map f ++ [f z] := by
  rw [List.take_add_one, h, List.map_append]; rfl
theorem CanV.form {H : Heap} {v : Value} {q : Rat} (h : CanV H v q) : ∃ f A1 m1 c1 A2 m2 c2, v = .agg #[.bool f, .slice A1 m1 c1, .slice A2 m2 c2] := by
  obtain ⟨u, w, rfl, hu, hw⟩ := h
  obtain ⟨A1, c1, rfl, _⟩ := id hu
  obtain ⟨A2, c2, rfl, _⟩ := id hw
  exact ⟨_, _, _, _, _, _, _, rfl⟩

theorem scales_ok {H : Heap} {v cv : Value} {p : Prg} {c : List Rat} {N : Nat} {k d : Int} (hp : ProgV N H v p) (hc : SlV (RatP N) 3 H cv c) (hk0 : 0 ≤ k) (hk1 : k ≤ 255) (hd0 : 0 ≤ d) (hd1 : d ≤ 255) :
    Fn Tryz.prog 7 #[v, cv, .int .u8 k, .int .u8 d] H (fun v H' => Heap.le H H' ∧ v = .bool true) := by
  obtain ⟨fv, rv0, rfl, hfv, hrv0⟩ := id hp
  obtain ⟨Af, cf, xf, rfl, hrF, hxF⟩ := hfv.one
  obtain ⟨Ar, cr, xr, rfl, hrR, hxR⟩ := hrv0.row
  obtain ⟨Ac, cc, xc, rfl, hcc, hrc, hec⟩ := id hc
  refine fn_intro (args := [_, _, _, _]) Tryz.func7 rfl rfl Tryz.ntmps7 rfl rfl fun w0 => ?_
  refine vc_keep [0, 1, 2, 3] rfl ?_
  refine vc_sr ?_
  refine vco_box rfl rfl ?_
  refine vco_run tbOk 1 rfl ?_
  refine vco_k [1, 2, 3, 4] ?_
  refine vc_seq ?_
  refine vc_sr ?_
  refine vco_call rfl rfl (sane_ok) ?_
  rintro _ H1 ⟨hl1, rfl⟩
  refine vco_run tbOk 1 rfl ?_
  refine vco_k [1, 2, 3, 4, 17] ?_
  refine vc_cond_f rfl ?_
  refine vc_skip ?_
  refine vc_keep [1, 2, 3, 4] rfl ?_
  refine vc_seq ?_
  refine vc_sr ?_
  refine vco_run tbOk 2 rfl ?_
  refine vco_call rfl rfl (solvable_ok (hp.le hl1) (hc.le (ratUp N) hl1)) ?_
  rintro _ H2 ⟨hl2, b2, rfl, hb2⟩
  have h02 := hl1.trans hl2
  refine vco_run tbOk 1 rfl ?_
  refine vco_k [1, 2, 3, 4, 21] ?_
  refine vc_cond rfl (fun hb => ?_) (fun hb => ?_)
  ·
    skip
    refine vc_sr ?_
    refine vco_run tbOk 1 rfl ?_
    refine vco_k [8] ?_
    refine vc_ret ⟨.inr rfl, _, .tmp rfl (.nil), ?_⟩
    exact ⟨h02, rfl⟩
  ·
    have hs := hb2 (by simpa using hb)
    have hn5 := hs.sml.cols
    have hcl := hs.len
    have hec2 := hs.vec
    refine vc_skip ?_
    refine vc_keep [1, 2, 3, 4] rfl ?_
    refine vc_sr ?_
    refine vco_run tbOk 1 rfl ?_
    refine vco_conv tbOk rfl rfl rfl ⟨by omega, by omega⟩ ?_
    refine vco_add rfl rfl ⟨by omega, by omega⟩ ?_
    refine vco_run tbOk 1 rfl ?_
    refine vco_conv tbOk rfl rfl rfl ⟨by omega, by omega⟩ ?_
    refine vco_add rfl rfl ⟨by omega, by omega⟩ ?_
    refine vco_call rfl rfl (rSmall_ok (by omega) (by omega) (by omega) (by omega)) ?_
    rintro _ H3 ⟨hl3, hq3⟩
    obtain ⟨f3, A31, m31, c31, A32, m32, c32, rfl⟩ := hq3.form
    have hfz := small_sz (a := 1 + k) (b := 1 + d) (by omega) (by omega) (by omega) (by omega)
    have hf0 := small_pos (a := 1 + k) (b := 1 + d) (by omega) (by omega)
    have hfr := (CanV.raw hq3).mono (M := 20) (by omega)
    refine vco_alloc el34 rfl ?_
    obtain ⟨ti, hti, htz⟩ := sz34; refine vco_bstore (.inl ⟨rfl, rfl⟩) rfl rfl rfl hti htz rfl rfl rfl ?_
    refine vco_k [1, 4, 9] ?_
    generalize hF : ((1 + k : Int) : Rat) / ((1 + d : Int) : Rat) = F at hfz hf0 hfr
    refine vc_sr ?_
    refine vco_run tbOk 2 rfl ?_
    refine vco_make Tryz.underlying26 el34 rfl rfl rfl (by omega) (by omega) (by omega) (by omega) ?_
    intro g hg
    have hg0 := gro_make (P := CanP) (e := 34) (sz := 3) (zs := [.bool false, .slice none 0 0, .slice none 0 0]) (z := 0) (k := (c.length : Int)) (c := c.length) hg rfl (by omega) (by unfold maxLen; omega)
    refine vco_run tbOk 1 rfl ?_
    refine vco_k [1, 4, 9, 10] ?_
    refine vc_seq ?_
    refine vc_sr ?_
    refine vco_run tbOk 3 rfl ?_
    refine vco_k [1, 4, 9, 10, 33, 34] ?_
    refine vc_block ?_
    refine vc_loop3 (fun (i : Nat) (vv : Value) (xs : List Value) => c.length - i) (fun (i : Nat) (vv : Value) (xs : List Value) => put (put (put (put (put (put (emp) 1 (.val (.slice Ac c.length cc))) 4 (.box [.slice Af p.free.length cf, .slice Ar p.rows.length cr])) 9 (.box [.bool f3, .slice A31 m31 c31, .slice A32 m32 c32])) 10 (.val (vv))) 33 (.val (.int .i64 (c.length : Int)))) 34 (.val (.int .i64 (i : Int)))) (fun (i : Nat) (vv : Value) (xs : List Value) H' => Gro CanP 34 3 H3 H' vv ((c.take i).map (fun q => F * q)) xs ∧ i ≤ c.length) 0 _ [] (⟨by simpa using hg0, Nat.zero_le _⟩) (by repeat (first | exact sub_emp _ | refine sub_put rfl ?_ | refine sub_put (slot_int (by first | omega | (simp; done))) ?_)) ?_
    rintro i vv xs H4 ⟨hG, hi⟩
    refine vc_sr ?_
    refine vco_run tbOk 1 rfl ?_
    refine vco_k [1, 4, 9, 10, 33, 34, 35] ?_
    refine vc_seq ?_
    refine vc_cond rfl (fun hb => ?_) (fun hb => ?_)
    ·
      have him : i < c.length := by simpa using hb
      obtain ⟨q, hqk⟩ : ∃ q, c[i]? = some q := ⟨_, List.getElem?_eq_getElem him⟩
      obtain ⟨Ac', cc', xc', e', hcc', hrc', hec'⟩ := id hec2
      cases e'
      obtain ⟨g5, B1, k1, e1, B2, k2, e2, hsg, hraw, hqx⟩ := SlV.seg3 hec' hqk
      have hb4 := hl3.trans hG.base
      have htl : ((c.take i).map (fun q => F * q)).length = i := by simp; omega
      refine vc_skip ?_
      refine vc_keep [1, 4, 9, 10, 33, 34] rfl ?_
      refine vc_seq ?_
      refine vc_block ?_
      refine vc_sr ?_
      refine vco_run tbOk 2 rfl ?_
      refine vco_k [1, 4, 9, 10, 11, 33, 34] ?_
      refine vc_draw .drawB [0, 1, 2, 3, 4, 5, 6, 7, 8, 9] follows (by kernel_rfl) ?_
      refine vco_run tbOk 4 rfl ?_
      refine vco_at_st (vs := [.bool g5, .slice B1 k1 e1, .slice B2 k2 e2]) tbOk rfl rfl rfl rfl (hrc'.le (hl3.trans hG.le)) rfl (by decide) hqx (by omega) (by omega) fun _ => ?_
      refine vco_callM rfl rfl (hG.call (rMul_ok (hfr.le hG.base) ((hraw.mono (M := 20) (by decide)).le hb4) (by decide))) (fun _ _ h => h.le fun _ _ h => h.1) ?_
      rintro _ H5 hF5
      have hG5 := hG.framed canUp hF5 fun _ _ h => h.1
      obtain ⟨⟨_, hq5⟩, _⟩ := hF5
      obtain ⟨f5, A51, m51, c51, A52, m52, c52, rfl⟩ := hq5.form
      refine vco_build Tryz.underlying26 el34 rfl rfl rfl rfl rfl rfl rfl ?_
      intro gb hgb
      have hG6 := hG5.ins canUp (whole (cellsL [.agg #[.bool f5, .slice A51 m51 c51, .slice A52 m52 c52]]) 34) hgb
      refine vco_append Tryz.underlying26 el34 rfl rfl hG6.own (rd_ins _ _ _ _ _ _) rfl (one_rat _ _ _ _ _ _ _) (by rw [htl]; omega) (by rw [htl]; omega) ?_
      intro v7 H7 ha7
      have hG7 := hG6.append canUp (k := [F * q]) (by simp) ha7 (els_one (canUp _ _ _ _ (rem_mono _ (Heap.le_ins _ hgb)) (show CanP _ [_, _, _] _ from hF ▸ hq5)) rfl)
      refine vco_run tbOk 1 rfl ?_
      refine vco_end ?_
      refine vc_keep [1, 4, 9, 10, 33, 34] rfl ?_
      refine vc_region rfl ?_
      refine vco_add rfl rfl ⟨by omega, by omega⟩ ?_
      refine vco_run tbOk 1 rfl ?_
      refine vco_end ?_
      exact ⟨i + 1, _, _, by omega, (by repeat (first | exact sub_emp _ | refine sub_put rfl ?_ | refine sub_put (slot_int (by first | omega | (simp; done))) ?_)), by rw [take_map_snoc hqk]; exact hG7, by omega⟩
    ·
      have hb : c.length ≤ i := by simpa using hb
      obtain rfl : i = c.length := by omega
      rw [List.take_length] at hG
      have hD := (hG.sl canUp).can_rat (N := 5) (fun q hq => by
        obtain ⟨r, hr, rfl⟩ := List.mem_map.1 hq
        have h1 := szQ_mul F r
        have h2 := hec2.rsize r hr
        omega)
      obtain ⟨A4, c4, rfl⟩ := hG.form
      have h24 := hl3.trans hG.le
      refine vc_exit ?_
      refine vc_keep [1, 4, 9, 10] rfl ?_
      refine vc_sr ?_
      refine vco_run tbOk 2 rfl ?_
      refine vco_call rfl rfl (minS_ok (hs.le h24).few hs.ok hs.len) ?_
      rintro _ H5 ⟨hl5, S, f5, B51, m51, e51, B52, m52, e52, B5x, k5x, e5x, B5d, k5d, e5d, B5r, k5r, e5r, rfl, hchk5, hval5, hsx5, hsd5, hsr5⟩
      refine vco_run tbOk 3 rfl ?_
      refine vco_alloc el36 rfl ?_
      obtain ⟨ti, hti, htz⟩ := sz36; refine vco_bstore (.inl ⟨rfl, rfl⟩) rfl rfl rfl hti htz rfl rfl rfl ?_
      refine vco_run tbOk 1 rfl ?_
      refine vco_k [4, 9, 10, 12, 13] ?_
      refine vc_sr ?_
      refine vco_run tbOk 2 rfl ?_
      refine vco_call rfl rfl (minS_ok (N := 5) (c := c.map (fun q => F * q)) ⟨(hs.sml.prog.mono (by decide)).le (h24.trans hl5), hD.le (ratUp 5) hl5, by decide, by rw [List.length_map]; omega, (hs.le h24).few.rows, (hs.le h24).few.row⟩ hs.ok (by rw [List.length_map]; exact hs.len)) ?_
      rintro _ H6 ⟨hl6, T, f6, B61, m61, e61, B62, m62, e62, B6x, k6x, e6x, B6d, k6d, e6d, B6r, k6r, e6r, rfl, hchk6, hval6, hsx6, hsd6, hsr6⟩
      refine vco_run tbOk 3 rfl ?_
      refine vco_alloc el36 rfl ?_
      obtain ⟨ti, hti, htz⟩ := sz36; refine vco_bstore (.inl ⟨rfl, rfl⟩) rfl rfl rfl hti htz rfl rfl rfl ?_
      refine vco_run tbOk 1 rfl ?_
      refine vco_k [9, 12, 13, 14, 15] ?_
      obtain ⟨hst, hvl⟩ := sem_map (F * ·) (by simp) id (fun u h => opt_scale hf0 (d := fn (c.map (fun q => F * q))) (fun j _ => fn_map_mul j) h) (fun h => unb_scale hf0 (fun j _ => fn_map_mul j) h) hchk5.sem hchk6.sem
      have hs6 := hl5.trans hl6
      refine vc_sd .drawB [0, 1, 2, 3, 4, 5, 6, 7, 8, 9, 10, 11, 12, 13, 14, 15, 16, 18, 19, 17, 20, 21, 22, 23] follows (by kernel_rfl) ?_
      refine vco_run tbOk 11 rfl ?_
      refine vco_cmp true rfl rfl (ceq_t hst) ?_
      refine vco_run tbOk 7 rfl ?_
      refine vco_callM rfl rfl (rMul_ok (N := MX) ((hfr.mono (by decide)).le (hG.le.trans hs6)) (hval5.le hl6) (by decide)) (fun _ _ h => by first | exact h.le | exact h.1) ?_
      rintro _ H7 ⟨hl7, hq7⟩
      obtain ⟨f7, A71, m71, c71, A72, m72, c72, rfl⟩ := hq7.form
      have hz7 := szQ_mul F S.value
      have hz8 := hval5.size
      refine vco_callM rfl rfl ((rCmp_ok (N := 2 * MX) ((CanV.raw hq7).mono (by show _ ≤ 2 * 100000000; rw [show MX = 100000000 from rfl] at hz8; omega)) ((hval6.mono (by decide)).le hl7) (by decide)).mono fun v H' h => (⟨h.1, by rw [h.2, hvl, cmpQ_self]⟩ : Heap.le H7 H' ∧ v = .int .i64 0)) (fun _ _ h => by first | exact h.le | exact h.1) ?_
      rintro _ H8 ⟨hl8, rfl⟩
      refine vco_run tbOk 3 rfl ?_
      refine vco_k [8] ?_
      refine vc_ret ⟨.inr rfl, _, .tmp rfl (.nil), ?_⟩
      exact ⟨h02.trans (h24.trans (hs6.trans (hl7.trans hl8))), rfl⟩

end Go.Eng
