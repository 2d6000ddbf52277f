/- SimplexEquations: the law's walk; keep2.Place. -/
import Derived.Test.YtfkeccepnppjnaaGreatA12
import Derived.Test.YtfkeccepnppjnaaGreatScl
namespace Go.Eng
open Go.Proofs Num Lp
/-- Results of two programs whose optima correspond. -/
theorem sem_opt {p q : LP} {c d : Nat → Rat} {s t : Int} {v w : Rat} (g : Rat → Rat) (hinf : p.IsInf → q.IsInf) (hopt : ∀ u, p.IsOpt c u → q.IsOpt d (g u)) (hunb : p.IsUnb c → q.IsUnb d)
    (h : (s = 1 ∧ p.IsOpt c v) ∨ (s = 2 ∧ p.IsInf ∧ v = 0) ∨ (s = 3 ∧ p.IsUnb c ∧ v = 0)) (k : (t = 1 ∧ q.IsOpt d w) ∨ (t = 2 ∧ q.IsInf ∧ w = 0) ∨ (t = 3 ∧ q.IsUnb d ∧ w = 0)) : s = t ∧ (s = 1 → g v = w) := by
  rcases h with ⟨h1, h2⟩ | ⟨h1, h2, h3⟩ | ⟨h1, h2, h3⟩
  · rcases k with ⟨k1, k2⟩ | ⟨k1, k2, k3⟩ | ⟨k1, k2, k3⟩
    · exact ⟨h1.trans k1.symm, fun _ => LP.opt_opt (hopt _ h2) k2⟩
    · exact (LP.opt_inf (hopt _ h2) k2).elim
    · exact (LP.opt_unb (hopt _ h2) k2).elim
  · rcases k with ⟨k1, k2⟩ | ⟨k1, k2, k3⟩ | ⟨k1, k2, k3⟩
    · exact (LP.opt_inf k2 (hinf h2)).elim
    · exact ⟨h1.trans k1.symm, fun e => by omega⟩
    · exact (LP.unb_inf k2 (hinf h2)).elim
  · rcases k with ⟨k1, k2⟩ | ⟨k1, k2, k3⟩ | ⟨k1, k2, k3⟩
    · exact (LP.opt_unb k2 (hunb h2)).elim
    · exact (LP.unb_inf (hunb h2) k2).elim
    · exact ⟨h1.trans k1.symm, fun e => by omega⟩
section
variable {p : LP} {c d : Nat → Rat} {k : Rat} {i : Nat}
theorem dot_shift (hi : i < p.m) (hr : p.rel i = 2) (hd : ∀ j, j < p.n → d j = c j + k * p.a i j) {x : Nat → Rat} (hx : p.Meets 1 x) : dotN p.n d x = dotN p.n c x + k * p.b i := by
  have h1 := (hx.2 i hi).2.1 hr
  have h2 : dotN p.n d x = dotN p.n c x + k * dotN p.n (p.a i) x := by
    unfold dotN
    rw [← sumN_mul, ← sumN_add]
    exact sumN_congr fun j hj => by rw [hd j hj]; grind
  have h3 : dotN p.n (p.a i) x = p.b i := by grind
  rw [h2, h3]
theorem opt_shift (hi : i < p.m) (hr : p.rel i = 2) (hd : ∀ j, j < p.n → d j = c j + k * p.a i j) {u : Rat} (h : p.IsOpt c u) : p.IsOpt d (u + k * p.b i) := by
  obtain ⟨⟨x, hx, e⟩, h2⟩ := h
  refine ⟨⟨x, hx, by rw [dot_shift hi hr hd hx, e]⟩, fun y hy => ?_⟩
  rw [dot_shift hi hr hd hy]
  have := h2 y hy
  grind
theorem unb_shift (hi : i < p.m) (hr : p.rel i = 2) (hd : ∀ j, j < p.n → d j = c j + k * p.a i j) (h : p.IsUnb c) : p.IsUnb d := by
  refine ⟨h.1, fun v => ?_⟩
  obtain ⟨x, hx, hlt⟩ := h.2 (v - k * p.b i)
  refine ⟨x, hx, ?_⟩
  rw [dot_shift hi hr hd hx]
  grind
end
/-- c + k a, as far as both reach. -/
def addm (k : Rat) (c a : List Rat) : List Rat := (List.range c.length).map fun j => fn c j + k * fn a j
theorem addm_len (k : Rat) (c a : List Rat) : (addm k c a).length = c.length := by simp [addm]
theorem addm_fn {k : Rat} {c a : List Rat} {j : Nat} (h : j < c.length) : fn (addm k c a) j = fn c j + k * fn a j := fn_get (by simp [addm, h])
theorem addm_take {k : Rat} {c a : List Rat} {i : Nat} (h : i < c.length) : (addm k c a).take (i + 1) = (addm k c a).take i ++ [fn c i + k * fn a i] := by
  rw [List.take_add_one]
  congr 1
  simp [addm, h]

theorem place_ok {H : Heap} {x n : Int} (hx : 0 ≤ x) (hx2 : x ≤ 255) (hn : 1 ≤ n) :
    Fn Tryz.prog 31 #[.int .u8 x, .int .i64 n] H (RetE H (.int .i64 (x % n))) := by
  refine fn_intro (args := [_, _]) Tryz.func31 rfl rfl Tryz.ntmps31 rfl rfl fun w0 => ?_
  refine vc_keep [0, 1] rfl ?_
  refine vc_sr ?_
  refine vco_run tbOk 1 rfl ?_
  refine vco_k [0, 1] ?_
  refine vc_seq ?_
  refine vc_sr ?_
  refine vco_run tbOk 2 rfl ?_
  refine vco_k [0, 1, 6] ?_
  refine vc_cond rfl (fun hb => ?_) (fun hb => ?_)
  ·
    have hb : n < 1 := by simpa using hb
    omega
  ·
    skip
    refine vc_skip ?_
    refine vc_keep [0, 1] rfl ?_
    refine vc_sr ?_
    refine vco_run tbOk 1 rfl ?_
    refine vco_conv tbOk rfl rfl rfl ⟨by omega, by omega⟩ ?_
    refine vco_run tbOk 1 rfl ?_
    refine vco_rem rfl rfl (by omega) (by omega) ?_
    refine vco_run tbOk 1 rfl ?_
    refine vco_k [4] ?_
    refine vc_ret ⟨.inr rfl, _, .tmp rfl (.nil), ?_⟩
    exact ⟨rfl, rfl⟩

theorem equations_ok {H : Heap} {v cv : Value} {p : Prg} {c : List Rat} {N : Nat} {x k : Int} (hp : ProgV N H v p) (hc : SlV (RatP N) 3 H cv c) (hx0 : 0 ≤ x) (hx1 : x ≤ 255) (hk0 : -128 ≤ k) (hk1 : k ≤ 127) :
    Fn Tryz.prog 9 #[v, cv, .int .u8 x, .int .i8 k] H (fun v H' => Heap.le H H' ∧ v = .bool true) := by
  obtain ⟨fv, rv0, rfl, hfv, hrv0⟩ := id hp
  obtain ⟨Af, cf, xf, rfl, hrF, hxF⟩ := hfv.one
  obtain ⟨Ar, cr, xr, rfl, hrR, hxR⟩ := hrv0.row
  obtain ⟨Ac, cc, xc, rfl, hcc, hrc, hec⟩ := id hc
  refine fn_intro (args := [_, _, _, _]) Tryz.func9 rfl rfl Tryz.ntmps9 rfl rfl fun w0 => ?_
  refine vc_keep [0, 1, 2, 3] rfl ?_
  refine vc_sr ?_
  refine vco_box rfl rfl ?_
  refine vco_run tbOk 1 rfl ?_
  refine vco_k [1, 2, 3, 4] ?_
  refine vc_seq ?_
  refine vc_sr ?_
  refine vco_call rfl rfl (sane_ok) ?_
  rintro _ H1 ⟨hl1, rfl⟩
  refine vco_run tbOk 1 rfl ?_
  refine vco_k [1, 2, 3, 4, 18] ?_
  refine vc_cond_f rfl ?_
  refine vc_skip ?_
  refine vc_keep [1, 2, 3, 4] rfl ?_
  refine vc_seq ?_
  refine vc_sr ?_
  refine vco_run tbOk 2 rfl ?_
  refine vco_call rfl rfl (solvable_ok (hp.le hl1) (hc.le (ratUp N) hl1)) ?_
  rintro _ H2 ⟨hl2, b2, rfl, hb2⟩
  have h02 := hl1.trans hl2
  cases b2
  ·
    skip
    refine vco_run tbOk 7 rfl ?_
    refine vco_k [1, 2, 3, 4, 28] ?_
    refine vc_cond_t rfl ?_
    refine vc_sr ?_
    refine vco_run tbOk 1 rfl ?_
    refine vco_k [8] ?_
    refine vc_ret ⟨.inr rfl, _, .tmp rfl (.nil), ?_⟩
    exact ⟨h02, rfl⟩
  ·
    skip
    refine vco_run tbOk 7 rfl ?_
    refine vco_k [1, 2, 3, 4, 28] ?_
    refine vc_cond rfl (fun hb => ?_) (fun hb => ?_)
    ·
      skip
      refine vc_sr ?_
      refine vco_run tbOk 1 rfl ?_
      refine vco_k [8] ?_
      refine vc_ret ⟨.inr rfl, _, .tmp rfl (.nil), ?_⟩
      exact ⟨h02, rfl⟩
    ·
      have hs := hb2 rfl
      have hm0 : ¬ p.rows.length = 0 := by simpa [Int.natCast_inj] using hb
      have hn5 := hs.sml.cols
      have hm6 := hs.sml.rows
      have hcl := hs.len
      have hec2 := hs.vec
      obtain ⟨fv9, rv9, e9, hfv9, Ar9, cr9, xr9, e10, hcr9, hrR9, hxR9⟩ := id hs.sml.prog
      cases e9
      cases e10
      have hx2 : 0 ≤ x % (p.rows.length : Int) := Int.emod_nonneg _ (by omega)
      have hx3 : x % (p.rows.length : Int) < (p.rows.length : Int) := Int.emod_lt_of_pos _ (by omega)
      obtain ⟨i, hz⟩ : ∃ i : Nat, x % (p.rows.length : Int) = (i : Int) := ⟨(x % (p.rows.length : Int)).toNat, by omega⟩
      have him : i < p.rows.length := by omega
      obtain ⟨r, hr⟩ : ∃ r, p.rows[i]? = some r := ⟨_, List.getElem?_eq_getElem him⟩
      obtain ⟨A0, c0, f, A1, m1, c1, A2, m2, c2, hsg, hsl, hraw, hrx⟩ := SlV.segR hxR9 hr
      refine vc_skip ?_
      refine vc_keep [1, 2, 3, 4] rfl ?_
      refine vc_sd .drawB [0, 1, 2, 3, 4, 5, 6, 7, 8, 9, 10] follows (by kernel_rfl) ?_
      refine vco_run tbOk 6 rfl ?_
      refine vco_callM rfl rfl (place_ok hx0 hx1 (by omega)) (fun _ _ h => by first | exact h.le | exact h.1) ?_
      rintro _ H3 ⟨e3, rfl⟩
      rw [e3, hz]
      refine vco_at_st (vs := [.slice A0 r.1.length c0, .int .i64 r.2.1, .bool f, .slice A1 m1 c1, .slice A2 m2 c2]) tbOk rfl rfl rfl rfl hrR9 rfl (by decide) hrx (by omega) (by omega) fun _ => ?_
      refine vco_alloc el46 rfl ?_
      obtain ⟨ti, hti, htz⟩ := sz46; refine vco_bstore (.inl ⟨rfl, rfl⟩) rfl rfl rfl hti htz rfl rfl rfl ?_
      refine vco_k [1, 3, 4, 9] ?_
      refine vc_seq ?_
      refine vc_sr ?_
      refine vco_run tbOk 3 rfl ?_
      refine vco_k [1, 3, 4, 9, 40] ?_
      refine vc_cond rfl (fun hb => ?_) (fun hb => ?_)
      ·
        skip
        refine vc_sr ?_
        refine vco_run tbOk 1 rfl ?_
        refine vco_k [8] ?_
        refine vc_ret ⟨.inr rfl, _, .tmp rfl (.nil), ?_⟩
        exact ⟨h02, rfl⟩
      ·
        have hrel : r.2.1 = 2 := by simpa using hb
        have hrn := (hs.ok.row i r hr).1
        have hsl2 := hsl
        obtain ⟨A0', c0', x0, e0, hc0, hr0, he0⟩ := hsl
        cases e0
        refine vc_skip ?_
        refine vc_keep [1, 3, 4, 9] rfl ?_
        refine vc_sr ?_
        refine vco_run tbOk 1 rfl ?_
        refine vco_conv tbOk rfl rfl rfl ⟨by omega, by omega⟩ ?_
        refine vco_call rfl rfl (from_ok (by omega) (by omega)) ?_
        rintro _ H3 ⟨hl3, f3, A31, m31, c31, A32, m32, c32, rfl, hq3⟩
        have hkz : szQ (k : Rat) ≤ 1 := szQ_le.2 ⟨by rw [B_eq]; show k.natAbs < _; omega, by show (1 : Nat) < B ^ 1; decide⟩
        have hfr := (CanV.raw hq3).mono (M := 20) (by omega)
        refine vco_alloc el34 rfl ?_
        obtain ⟨ti, hti, htz⟩ := sz34; refine vco_bstore (.inl ⟨rfl, rfl⟩) rfl rfl rfl hti htz rfl rfl rfl ?_
        refine vco_k [1, 4, 9, 10] ?_
        generalize hF : (k : Rat) = F at hkz hfr
        refine vc_sr ?_
        refine vco_run tbOk 2 rfl ?_
        refine vco_make Tryz.underlying26 el34 rfl rfl rfl (by omega) (by omega) (by omega) (by omega) ?_
        intro g hg
        have hg0 := gro_make (P := CanP) (e := 34) (sz := 3) (zs := [.bool false, .slice none 0 0, .slice none 0 0]) (z := 0) (k := (c.length : Int)) (c := c.length) hg rfl (by omega) (by unfold maxLen; omega)
        refine vco_run tbOk 1 rfl ?_
        refine vco_k [1, 4, 9, 10, 11] ?_
        refine vc_seq ?_
        refine vc_sr ?_
        refine vco_run tbOk 3 rfl ?_
        refine vco_k [1, 4, 9, 10, 11, 48, 49] ?_
        refine vc_block ?_
        refine vc_loop3 (fun (j : Nat) (vv : Value) (xs : List Value) => c.length - j) (fun (j : Nat) (vv : Value) (xs : List Value) => put (put (put (put (put (put (put (emp) 1 (.val (.slice Ac c.length cc))) 4 (.box [.slice Af p.free.length cf, .slice Ar p.rows.length cr])) 9 (.box [.slice A0 r.1.length c0, .int .i64 r.2.1, .bool f, .slice A1 m1 c1, .slice A2 m2 c2])) 10 (.box [.bool f3, .slice A31 m31 c31, .slice A32 m32 c32])) 11 (.val (vv))) 48 (.val (.int .i64 (c.length : Int)))) 49 (.val (.int .i64 (j : Int)))) (fun (j : Nat) (vv : Value) (xs : List Value) H' => Gro CanP 34 3 H3 H' vv ((addm F c r.1).take j) xs ∧ j ≤ c.length) 0 _ [] (⟨by simpa using hg0, Nat.zero_le _⟩) (by repeat (first | exact sub_emp _ | refine sub_put rfl ?_ | refine sub_put (slot_int (by first | omega | (simp; done))) ?_)) ?_
        rintro j vv xs H4 ⟨hG, hj⟩
        refine vc_sr ?_
        refine vco_run tbOk 1 rfl ?_
        refine vco_k [1, 4, 9, 10, 11, 48, 49, 50] ?_
        refine vc_seq ?_
        refine vc_cond rfl (fun hb => ?_) (fun hb => ?_)
        ·
          have hjm : j < c.length := by simpa using hb
          obtain ⟨q, hqk⟩ : ∃ q, c[j]? = some q := ⟨_, List.getElem?_eq_getElem hjm⟩
          obtain ⟨q2, hqk2⟩ : ∃ q, r.1[j]? = some q := ⟨_, List.getElem?_eq_getElem (by omega)⟩
          have hfc : q = fn c j := (fn_get hqk).symm
          have hfa : q2 = fn r.1 j := (fn_get hqk2).symm
          obtain ⟨Ac', cc', xc', e', hcc', hrc', hec'⟩ := id hec2
          cases e'
          obtain ⟨g5, B1, k1, e1, B2, k2, e2, hsg5, hraw5, hqx⟩ := SlV.seg3 hec' hqk
          obtain ⟨g6, D1, l1, d1, D2, l2, d2, hsg6, hraw6, hqx2⟩ := SlV.seg3 he0 hqk2
          have hb4 := hl3.trans hG.base
          have htl : ((addm F c r.1).take j).length = j := by rw [List.length_take, addm_len]; omega
          refine vc_skip ?_
          refine vc_keep [1, 4, 9, 10, 11, 48, 49] rfl ?_
          refine vc_seq ?_
          refine vc_block ?_
          refine vc_sr ?_
          refine vco_run tbOk 2 rfl ?_
          refine vco_k [1, 4, 9, 10, 11, 12, 48, 49] ?_
          refine vc_draw .drawB [0, 1, 2, 3, 4, 5, 6, 7, 8, 9, 10, 11, 12, 13, 14, 15] follows (by kernel_rfl) ?_
          refine vco_run tbOk 3 rfl ?_
          refine vco_at_st (vs := [.bool g5, .slice B1 k1 e1, .slice B2 k2 e2]) tbOk rfl rfl rfl rfl (hrc'.le (hl3.trans hG.le)) rfl (by decide) hqx (by omega) (by omega) fun _ => ?_
          refine vco_run tbOk 4 rfl ?_
          refine vco_at_st (vs := [.bool g6, .slice D1 l1 d1, .slice D2 l2 d2]) tbOk rfl rfl rfl rfl (hr0.le (hl3.trans hG.le)) rfl (by decide) hqx2 (by omega) (by omega) fun _ => ?_
          refine vco_callM rfl rfl (hG.call (rMul_ok (hfr.le hG.base) ((hraw6.mono (M := 20) (by decide)).le hb4) (by decide))) (fun _ _ h => h.le fun _ _ h => h.1) ?_
          rintro _ H5 hF5
          have hG5 := hG.framed canUp hF5 fun _ _ h => h.1
          obtain ⟨⟨hl45, hq5⟩, _⟩ := hF5
          obtain ⟨f5, A51, m51, c51, A52, m52, c52, rfl⟩ := hq5.form
          have hz5 := szQ_mul F q2
          have hz6 := hraw6.size
          refine vco_callM rfl rfl (hG5.call (rAdd_ok (N := 20) (((hraw5.mono (M := 20) (by decide)).le hb4).le hl45) ((CanV.raw hq5).mono (by omega)) (by decide))) (fun _ _ h => h.le fun _ _ h => h.1) ?_
          rintro _ H6 hF6
          have hG6 := hG5.framed canUp hF6 fun _ _ h => h.1
          obtain ⟨⟨hl56, hq6⟩, _⟩ := hF6
          obtain ⟨f6, A61, m61, c61, A62, m62, c62, rfl⟩ := hq6.form
          refine vco_build Tryz.underlying26 el34 rfl rfl rfl rfl rfl rfl rfl ?_
          intro gb hgb
          have hG6b := hG6.ins canUp (whole (cellsL [.agg #[.bool f6, .slice A61 m61 c61, .slice A62 m62 c62]]) 34) hgb
          refine vco_append Tryz.underlying26 el34 rfl rfl hG6b.own (rd_ins _ _ _ _ _ _) rfl (one_rat _ _ _ _ _ _ _) (by rw [htl]; omega) (by rw [htl]; omega) ?_
          intro v7 H7 ha7
          have hG7 := hG6b.append canUp (k := [q + F * q2]) (by simp) ha7 (els_one (canUp _ _ _ _ (rem_mono _ (Heap.le_ins _ hgb)) (show CanP _ [_, _, _] _ from hq6)) rfl)
          refine vco_run tbOk 1 rfl ?_
          refine vco_end ?_
          refine vc_keep [1, 4, 9, 10, 11, 48, 49] rfl ?_
          refine vc_region rfl ?_
          refine vco_add rfl rfl ⟨by omega, by omega⟩ ?_
          refine vco_run tbOk 1 rfl ?_
          refine vco_end ?_
          exact ⟨j + 1, _, _, by omega, (by repeat (first | exact sub_emp _ | refine sub_put rfl ?_ | refine sub_put (slot_int (by first | omega | (simp; done))) ?_)), by rw [addm_take hjm, ← hfc, ← hfa]; exact hG7, by omega⟩
        ·
          have hb : c.length ≤ j := by simpa using hb
          obtain rfl : j = c.length := by omega
          rw [List.take_of_length_le (by rw [addm_len]; exact Nat.le_refl _)] at hG
          have hD := (hG.sl canUp).can_rat (N := 11) (fun q hq => by
            obtain ⟨j, hj, rfl⟩ := List.mem_map.1 hq
            have hj := List.mem_range.1 hj
            have h1 := szQ_add (fn c j) (F * fn r.1 j)
            have h2 := szQ_mul F (fn r.1 j)
            have h3 := hec2.rsize _ (fn_mem hj)
            have h4 := hsl2.rsize _ (fn_mem (l := r.1) (j := j) (by omega))
            omega)
          obtain ⟨A4, c4, rfl⟩ := hG.form
          rw [addm_len]
          rw [addm_len] at hD
          have h24 := hl3.trans hG.le
          refine vc_exit ?_
          refine vc_keep [1, 4, 9, 10, 11] rfl ?_
          refine vc_sr ?_
          refine vco_run tbOk 2 rfl ?_
          refine vco_call rfl rfl (minS_ok (hs.le h24).few hs.ok hs.len) ?_
          rintro _ H5 ⟨hl5, S, f5, B51, m51, e51, B52, m52, e52, B5x, k5x, e5x, B5d, k5d, e5d, B5r, k5r, e5r, rfl, hchk5, hval5, hsx5, hsd5, hsr5⟩
          refine vco_run tbOk 3 rfl ?_
          refine vco_alloc el36 rfl ?_
          obtain ⟨ti, hti, htz⟩ := sz36; refine vco_bstore (.inl ⟨rfl, rfl⟩) rfl rfl rfl hti htz rfl rfl rfl ?_
          refine vco_run tbOk 1 rfl ?_
          refine vco_k [4, 9, 10, 11, 13, 14] ?_
          refine vc_sr ?_
          refine vco_run tbOk 2 rfl ?_
          refine vco_call rfl rfl (minS_ok (N := 11) (c := addm F c r.1) ⟨(hs.sml.prog.mono (by decide)).le (h24.trans hl5), hD.le (ratUp 11) hl5, by decide, by rw [addm_len]; omega, (hs.le h24).few.rows, (hs.le h24).few.row⟩ hs.ok (by rw [addm_len]; exact hs.len)) ?_
          rintro _ H6 ⟨hl6, T, f6, B61, m61, e61, B62, m62, e62, B6x, k6x, e6x, B6d, k6d, e6d, B6r, k6r, e6r, rfl, hchk6, hval6, hsx6, hsd6, hsr6⟩
          refine vco_run tbOk 3 rfl ?_
          refine vco_alloc el36 rfl ?_
          obtain ⟨ti, hti, htz⟩ := sz36; refine vco_bstore (.inl ⟨rfl, rfl⟩) rfl rfl rfl hti htz rfl rfl rfl ?_
          refine vco_run tbOk 1 rfl ?_
          refine vco_k [9, 10, 13, 14, 15, 16] ?_
          refine vc_seq ?_
          have hrow : p.row i = r := Prg.row_get hr
          have hdj : ∀ j, j < p.lp.n → fn (addm F c r.1) j = fn c j + F * p.lp.a i j := fun j hj => by
            rw [addm_fn (by rw [hcl]; exact hj)]; show _ = _ + F * fn (p.row i).1 j; rw [hrow]
          have hre : p.lp.rel i = 2 := by show (p.row i).2.1 = 2; rw [hrow, hrel]
          obtain ⟨hst, hvl⟩ := sem_opt (· + F * p.lp.b i) id (fun u h => opt_shift him hre hdj h) (fun h => unb_shift him hre hdj h) hchk5.sem hchk6.sem
          have hbi : p.lp.b i = r.2.2 := by show (p.row i).2.2 = _; rw [hrow]
          rw [hbi] at hvl
          have hs6 := hl5.trans hl6
          refine vc_sr ?_
          refine vco_run tbOk 11 rfl ?_
          refine vco_cmp false rfl rfl (cne_f hst) ?_
          refine vco_run tbOk 1 rfl ?_
          refine vco_k [9, 10, 13, 15, 92] ?_
          refine vc_cond_f rfl ?_
          refine vc_skip ?_
          refine vc_keep [9, 10, 13, 15] rfl ?_
          by_cases h1 : S.status = 1
          ·
            skip
            refine vc_sd .drawB [0, 1, 2, 3, 4, 5, 6, 7, 8, 11, 12, 9, 10, 13, 14, 15, 16] follows (by kernel_rfl) ?_
            refine vco_run tbOk 2 rfl ?_
            refine vco_cmp false rfl rfl (cne_f h1) ?_
            refine vco_run tbOk 8 rfl ?_
            refine vco_callM rfl rfl (rMul_ok (N := 20) (hfr.le (hG.le.trans hs6)) ((hraw.mono (by decide)).le (h24.trans hs6)) (by decide)) (fun _ _ h => by first | exact h.le | exact h.1) ?_
            rintro _ H7 ⟨hl7, hq7⟩
            obtain ⟨f7, A71, m71, c71, A72, m72, c72, rfl⟩ := hq7.form
            have hz7 := szQ_mul F r.2.2
            have hz8 := hraw.size
            refine vco_callM rfl rfl (rAdd_ok (N := MX) ((hval5.le hl6).le hl7) ((CanV.raw hq7).mono (by show _ ≤ 100000000; omega)) (by decide)) (fun _ _ h => by first | exact h.le | exact h.1) ?_
            rintro _ H8 ⟨hl8, hq8⟩
            obtain ⟨f8, A81, m81, c81, A82, m82, c82, rfl⟩ := hq8.form
            have hz9 := szQ_add S.value (F * r.2.2)
            have hz10 := hval5.size
            refine vco_callM rfl rfl ((rCmp_ok (N := 2 * MX) ((CanV.raw hq8).mono (by show _ ≤ 2 * 100000000; rw [show MX = 100000000 from rfl] at hz10; omega)) (((hval6.mono (by decide)).le hl7).le hl8) (by decide)).mono fun v H' h => (⟨h.1, by rw [h.2, hvl h1, cmpQ_self]⟩ : Heap.le H8 H' ∧ v = .int .i64 0)) (fun _ _ h => by first | exact h.le | exact h.1) ?_
            rintro _ H9 ⟨hl9, rfl⟩
            refine vco_run tbOk 3 rfl ?_
            refine vco_k [8] ?_
            refine vc_ret ⟨.inr rfl, _, .tmp rfl (.nil), ?_⟩
            exact ⟨h02.trans (h24.trans (hs6.trans (hl7.trans (hl8.trans hl9)))), rfl⟩
          ·
            skip
            refine vc_sd .drawB [0, 1, 2, 3, 4, 5, 6, 7, 8, 11, 12, 9, 10, 13, 14, 15, 16] follows (by kernel_rfl) ?_
            refine vco_run tbOk 2 rfl ?_
            refine vco_cmp true rfl rfl (cne_t h1) ?_
            refine vco_run tbOk 14 rfl ?_
            refine vco_k [8] ?_
            refine vc_ret ⟨.inr rfl, _, .tmp rfl (.nil), ?_⟩
            exact ⟨h02.trans (h24.trans hs6), rfl⟩

end Go.Eng
