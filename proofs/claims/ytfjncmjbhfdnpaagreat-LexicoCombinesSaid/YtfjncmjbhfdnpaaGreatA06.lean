/- Part 6 of the proof: Tab3, TDat3, Tab4, Tab5, Tab6, Tab7, Eng13, Tab8. -/
import Derived.Test.YtfjncmjbhfdnpaaGreatA05
set_option linter.unusedVariables false
/- Walks over package simplex, tableau.go, part 3: solve. -/
namespace Go.Eng
open Go.Proofs Num Lp
theorem sgn_ge {q : Rat} : 0 ≤ sgnQ q ↔ 0 ≤ q := by
  unfold sgnQ
  by_cases h : q < 0
  · rw [if_pos h]; constructor <;> intro h' <;> first | omega | grind
  · rw [if_neg h]
    by_cases e : q = 0
    · rw [if_pos e]; constructor <;> intro h' <;> first | omega | grind
    · rw [if_neg e]; constructor <;> intro h' <;> first | omega | grind
theorem sgn_le {q : Rat} : sgnQ q ≤ 0 ↔ q ≤ 0 := by
  unfold sgnQ
  by_cases h : q < 0
  · rw [if_pos h]; constructor <;> intro h' <;> first | omega | grind
  · rw [if_neg h]
    by_cases e : q = 0
    · rw [if_pos e]; constructor <;> intro h' <;> first | omega | grind
    · rw [if_neg e]; constructor <;> intro h' <;> first | omega | grind
theorem sgn_lt {q : Rat} : sgnQ q < 0 ↔ q < 0 := by
  have := sgn_ge (q := q)
  constructor
  · intro h; false_or_by_contra; have := this.2 (by grind); omega
  · intro h; false_or_by_contra; have := this.1 (by omega); grind
theorem sgn_gt {q : Rat} : 0 < sgnQ q ↔ 0 < q := by
  have := sgn_le (q := q)
  constructor
  · intro h; false_or_by_contra; have := this.2 (by grind); omega
  · intro h; false_or_by_contra; have := this.1 (by omega); grind
theorem sgn_eq {q : Rat} : sgnQ q = 0 ↔ q = 0 := by
  constructor
  · exact sgn_zero
  · intro h; rw [h]; rfl
theorem szQ_inv (q : Rat) : szQ q⁻¹ ≤ szQ q := by
  by_cases h : q = 0
  · rw [h, Rat.inv_zero]; exact Nat.le_refl _
  · have hn : 0 < q.num.natAbs := by
      have : q.num ≠ 0 := fun e => h (Rat.num_eq_zero.1 e)
      omega
    have e := frac_inv (g := decide (q.num < 0)) (m := q.num.natAbs) (e := q.den) hn
    rw [frac_self] at e
    have h1 := limbs_len_mono (Nat.div_le_self q.den (Nat.gcd q.den q.num.natAbs))
    have h2 := limbs_len_mono (Nat.div_le_self q.num.natAbs (Nat.gcd q.den q.num.natAbs))
    rw [e]
    unfold szQ
    rw [frac_abs hn, frac_den hn]; omega
theorem szQ_div (p q : Rat) : szQ (p / q) ≤ szQ p + szQ q := by
  rw [Rat.div_def]
  have h1 := szQ_mul p q⁻¹
  have h2 := szQ_inv q
  omega
/-- What the search for the row has found among the first k. -/
def Found (T : Tab) (s k : Nat) (row : Int) (K : Heap) (ls : List Value) : Prop :=
  (row = -1 ∧ ∀ i, i < k → T.A i s ≤ 0) ∨ ∃ r : Nat, row = (r : Int) ∧ r < k ∧ 0 < T.A r s ∧ NumV K ls (T.A r T.n / T.A r s) ∧
    ∀ i, i < k → 0 < T.A i s → T.A r T.n / T.A r s < T.A i T.n / T.A i s ∨ (T.A r T.n / T.A r s = T.A i T.n / T.A i s ∧ T.B r ≤ T.B i)
section
variable {T : Tab} {s k : Nat} {row : Int} {K K' : Heap} {ls : List Value}
theorem Found.le (h : Found T s k row K ls) (hl : Heap.le K K') : Found T s k row K' ls := by
  rcases h with h | ⟨r, h1, h2, h3, h4, h5⟩
  · exact .inl h
  · exact .inr ⟨r, h1, h2, h3, h4.le hl, h5⟩
theorem Found.skip (h : Found T s k row K ls) (hk : T.A k s ≤ 0) : Found T s (k + 1) row K ls := by
  rcases h with ⟨h1, h2⟩ | ⟨r, h1, h2, h3, h4, h5⟩
  · exact .inl ⟨h1, fun i hi => by
      by_cases e : i = k
      · rw [e]; exact hk
      · exact h2 i (by omega)⟩
  · exact .inr ⟨r, h1, by omega, h3, h4, fun i hi hp => by
      by_cases e : i = k
      · rw [e] at hp; grind
      · exact h5 i (by omega) hp⟩
/-- A lesser one. -/
theorem Found.new {ls' : List Value} (h : Found T s k row K ls) (hk : 0 < T.A k s) (hn : NumV K ls' (T.A k T.n / T.A k s)) (hl : row = -1 ∨ ∀ r : Nat, row = (r : Int) → T.A k T.n / T.A k s < T.A r T.n / T.A r s) : Found T s (k + 1) (k : Int) K ls' := by
  refine .inr ⟨k, rfl, by omega, hk, hn, fun i hi hp => ?_⟩
  by_cases e : i = k
  · rw [e]; exact .inr ⟨rfl, Nat.le_refl _⟩
  · rcases h with ⟨h1, h2⟩ | ⟨r, h1, h2, h3, h4, h5⟩
    · have := h2 i (by omega); grind
    · have h6 : T.A k T.n / T.A k s < T.A r T.n / T.A r s := by
        rcases hl with hl | hl
        · omega
        · exact hl r h1
      rcases h5 i (by omega) hp with h7 | h7
      · left; grind
      · left; rw [← h7.1]; exact h6
/-- An equal one with a lesser column. -/
theorem Found.tie (h : Found T s k row K ls) (hk : 0 < T.A k s) {r : Nat} (hr : row = (r : Int)) (he : T.A k T.n / T.A k s = T.A r T.n / T.A r s) (hB : T.B k < T.B r) : Found T s (k + 1) (k : Int) K ls := by
  rcases h with ⟨h1, h2⟩ | ⟨r', h1, h2, h3, h4, h5⟩
  · omega
  · obtain rfl : r' = r := by omega
    refine .inr ⟨k, rfl, by omega, hk, by rw [he]; exact h4, fun i hi hp => ?_⟩
    by_cases e : i = k
    · rw [e]; exact .inr ⟨rfl, Nat.le_refl _⟩
    · rcases h5 i (by omega) hp with h7 | h7
      · left; rw [he]; exact h7
      · right; exact ⟨by rw [he]; exact h7.1, by omega⟩
/-- One that is no better. -/
theorem Found.stay (h : Found T s k row K ls) (hk : 0 < T.A k s) {r : Nat} (hr : row = (r : Int)) (he : T.A r T.n / T.A r s < T.A k T.n / T.A k s ∨ (T.A r T.n / T.A r s = T.A k T.n / T.A k s ∧ T.B r ≤ T.B k)) : Found T s (k + 1) row K ls := by
  rcases h with ⟨h1, h2⟩ | ⟨r', h1, h2, h3, h4, h5⟩
  · omega
  · obtain rfl : r' = r := by omega
    refine .inr ⟨r', h1, by omega, h3, h4, fun i hi hp => ?_⟩
    by_cases e : i = k
    · rw [e]; exact he
    · exact h5 i (by omega) hp
end
theorem solve_ok {H : Heap} {G : TG} {L : TL} {T0 : Tab} {N : Nat} {I : Tab → Prop} (h : TabV H G L T0) (hc : CostV H G L T0) (hI : I T0) (hstep : ∀ S r s, I S → S.Bland L.u r s → I (S.pivot r s)) (hinv : ∀ S, I S → S.WF ∧ S.Feas ∧ Sz N S ∧ S.m = T0.m ∧ S.n = T0.n)
  (hN : (N : Int) ≤ 137438953472) (hw : (L.w : Int) ≤ 1000000) (hm : (T0.m : Int) ≤ 1000000) :
  Fn Tryz.prog 51 #[.pointer (some ⟨G.g, 0, none⟩)] H (fun v H' => ∃ T, I T ∧ TabV H' G L T ∧ CostV H' G L T ∧ Heap.le (rem H G.gs) (rem H' G.gs) ∧ ((v = .int .i64 (-1) ∧ ∀ j, j < L.u → 0 ≤ T.c j) ∨ ∃ s : Nat, v = .int .i64 (s : Int) ∧ s < L.u ∧ T.c s < 0 ∧ ∀ i, i < T.m → T.A i s ≤ 0)) := by
 have huw := h.uw; refine fn_intro (args := [_]) Tryz.func51 rfl rfl Tryz.ntmps51 rfl rfl fun w0 => ?_; refine vc_keep [0] rfl ?_; refine vc_sr ?_; refine vr 1 ?_; refine vco_k [0] ?_; refine vc_block ?_; refine vc_loop (γ := Tab) (Tab.Step L.u) (fun (T : Tab) => put (emp) 0 (.val (.pointer (some ⟨G.g, 0, none⟩)))) (fun (T : Tab) H' => TabV H' G L T ∧ CostV H' G L T ∧ I T ∧ Heap.le (rem H G.gs) (rem H' G.gs)) (T0) ((by obtain ⟨h1, h2, _⟩ := hinv T0 hI; exact Tab.bland_acc h1 h2 (by rw [h.n]; exact huw))) sub_auto (⟨h, hc, hI, .refl _⟩) ?_; rintro T H1 ⟨h1, hc1, hI1, hle1⟩; obtain ⟨hwf, hfe, hsz, hTm, hTn⟩ := hinv T hI1; have hTw : T.n = L.w := h1.n
 have hTm' : (T.m : Int) ≤ 1000000 := by rw [hTm]; exact hm
 refine vc_block ?_; refine vc_sr ?_; refine vr 1 ?_; refine vco_k [0, 3] ?_; refine vc_cut1 (fun (k : Nat) => put (put (emp) 0 (.val (.pointer (some ⟨G.g, 0, none⟩)))) 3 (.val (.int .i64 (k : Int)))) (fun (k : Nat) H' => Kept G.gs H1 H' ∧ ((k = L.u ∧ ∀ j, j < L.u → 0 ≤ T.c j) ∨ (k < L.u ∧ T.c k < 0 ∧ ∀ j, j < k → 0 ≤ T.c j))) ?_ ?_
 ·
  refine vc_block ?_; refine vc_loop1 (fun (k : Nat) => L.u - k) (fun (k : Nat) => put (put (emp) 0 (.val (.pointer (some ⟨G.g, 0, none⟩)))) 3 (.val (.int .i64 (k : Int)))) (fun (k : Nat) H' => Kept G.gs H1 H' ∧ k ≤ L.u ∧ ∀ j, j < k → 0 ≤ T.c j) 0 (⟨.refl _ _, Nat.zero_le _, fun j hj => by omega⟩) sub_auto ?_; rintro k H2 ⟨hk2, hku, hpre⟩; have h2 := h1.kept hk2; have hc2 := hc1.kept hk2; refine vc_seq ?_
  by_cases hlt : k < L.u
  ·
   obtain ⟨gc, cc, hcb, hcv, hbc⟩ := id hc2; obtain ⟨xc, nc, dc, bc, hrc, hnc, hxc⟩ := hbc.rd (vals_get (show k < L.w + 1 by omega))
   have hl7 : cell H2 ((⟨G.g, 0, none⟩ : Addr).add 7) = some (.slice (some ⟨gc, 0, none⟩) (L.w + 1) cc) := by rw [← hcv]; exact h2.cell rfl
   have hsk := hsz.c k (by omega); refine vc_sr ?_; refine vr 3 ?_; refine vco_hfld tbOk rfl rfl rfl ?_; refine vco_hload tbOk rfl rfl rfl (h2.cell rfl) ?_; refine vco_cmp true rfl rfl (clt_t (by omega)) ?_; refine vr 3 ?_; refine vco_hfld tbOk rfl rfl rfl ?_; refine vco_hload tbOk rfl rfl rfl (hl7) ?_; refine vr 1 ?_; refine vco_at_st (vs := [.int .i64 nc, .int .i64 dc, .pointer bc]) tbOk rfl rfl rfl rfl hrc rfl (by decide) hxc (by omega) (by omega) fun _ => ?_; refine vco_call rfl rfl (Fn.frI h2.ne (ssign_ok hnc (by omega))) ?_; rintro v3 H3 ⟨hk3, hl3, rfl⟩; refine vr 2 ?_; refine vco_k [0, 3, 25] ?_; refine vc_cond rfl (fun hb => ?_) (fun hb => ?_)
   ·
    have hb : 0 ≤ T.c k := sgn_ge.1 (by simpa using hb); refine vc_skip ?_; refine vc_keep [0, 3] rfl ?_; refine vc_block ?_; refine vc_region rfl ?_; refine vr 1 ?_; refine vco_add rfl rfl ⟨by omega, by omega⟩ ?_; refine vr 1 ?_; refine vco_end ?_; exact ⟨k + 1, by omega, sub_auto, hk2.trans hk3, by omega, fun j hj => by by_cases e : j = k; (rw [e]; exact hb); exact hpre j (by omega)⟩
   ·
    have hb : T.c k < 0 := sgn_lt.1 (by simpa using hb); refine vc_exit ?_; exact ⟨k, sub_auto, hk2.trans hk3, .inr ⟨hlt, hb, hpre⟩⟩
  ·
   skip
   refine vc_sr ?_; refine vr 3 ?_; refine vco_hfld tbOk rfl rfl rfl ?_; refine vco_hload tbOk rfl rfl rfl (h2.cell rfl) ?_; refine vco_cmp false rfl rfl (clt_f (by omega)) ?_; refine vr 11 ?_; refine vco_k [0, 3, 25] ?_; refine vc_cond_f rfl ?_; refine vc_exit ?_; exact ⟨k, sub_auto, hk2, .inl ⟨by omega, fun j hj => hpre j (by omega)⟩⟩
 ·
  rintro k H3 ⟨hk3, hcase⟩; have h3 := h1.kept hk3; have hc3 := hc1.kept hk3; refine vc_seq ?_; refine vc_sr ?_; refine vr 3 ?_; refine vco_hfld tbOk rfl rfl rfl ?_; refine vco_hload tbOk rfl rfl rfl (h3.cell rfl) ?_; refine vr 1 ?_; refine vco_k [0, 3, 33] ?_; refine vc_cond rfl (fun hb => ?_) (fun hb => ?_)
  ·
   have hb : k = L.u := by simp at hb; omega
   have hall : ∀ j, j < L.u → 0 ≤ T.c j := by
    rcases hcase with h5 | h5
    · exact h5.2
    · omega
   refine vc_sr ?_; refine vr 1 ?_; refine vco_k [2] ?_; refine vc_ret ⟨.inr rfl, _, .tmp rfl (.nil), ?_⟩; exact ⟨T, hI1, h3, hc3, hle1.trans hk3.le, .inl ⟨rfl, hall⟩⟩
  ·
   have hb : k ≠ L.u := by simp at hb; omega
   obtain ⟨hlt, hneg, hpre⟩ : k < L.u ∧ T.c k < 0 ∧ ∀ j, j < k → 0 ≤ T.c j := by
    rcases hcase with h5 | h5
    · omega
    · exact h5
   refine vc_skip ?_; refine vc_keep [0, 3] rfl ?_; refine vc_sr ?_; refine vr 1 ?_; refine vco_k [0, 3, 4] ?_; refine vc_sr ?_; refine vco_alloc el90 rfl ?_; refine vco_k [0, 3, 4, 5] ?_; refine vc_seq ?_; refine vc_sr ?_; refine vr 2 ?_; refine vco_hfld tbOk rfl rfl rfl ?_; refine vco_hload tbOk rfl rfl rfl (h3.cell rfl) ?_; refine vr 2 ?_; refine vco_k [0, 3, 4, 5, 37, 38, 39] ?_; refine vc_block ?_; refine vc_loop3 (fun (q : Nat) (row : Int) (ls : Int × Int × Option Addr) => T.m - q) (fun (q : Nat) (row : Int) (ls : Int × Int × Option Addr) => put (put (put (put (put (put (put (emp) 0 (.val (.pointer (some ⟨G.g, 0, none⟩)))) 3 (.val (.int .i64 (k : Int)))) 4 (.val (.int .i64 row))) 5 (.box [.int .i64 ls.1, .int .i64 ls.2.1, .pointer ls.2.2])) 37 (.val (.slice G.Ar T.m G.cr))) 38 (.val (.int .i64 (T.m : Int)))) 39 (.val (.int .i64 (q : Int)))) (fun (q : Nat) (row : Int) (ls : Int × Int × Option Addr) H' => Kept G.gs H3 H' ∧ q ≤ T.m ∧ Found T k q row (rem H' G.gs) [.int .i64 ls.1, .int .i64 ls.2.1, .pointer ls.2.2]) 0 (-1) (0, 0, none) (⟨.refl _ _, Nat.zero_le _, .inl ⟨rfl, fun i hi => by omega⟩⟩) sub_auto ?_; rintro q row ls H4 ⟨hk4, hqm, hfo⟩; have h4 := h3.kept hk4; refine vc_sr ?_; refine vr 1 ?_; refine vco_k [0, 3, 4, 5, 37, 38, 39, 40] ?_; refine vc_seq ?_; refine vc_cond rfl (fun hb => ?_) (fun hb => ?_)
   ·
    have hqlt : q < T.m := by simpa using hb
    obtain ⟨pq, hpq⟩ := h1.get hqlt; obtain ⟨xs4, hrd4, hx4⟩ := h4.rows; obtain ⟨xk, nk, dk, bk, hrk, hnk, hxk⟩ := (h4.row q pq hpq).rd (vals_get (show k < L.w + 1 by omega)); obtain ⟨xw, nw, dw, bw, hrw, hnw, hxw⟩ := (h4.row q pq hpq).rd (vals_get (show L.w < L.w + 1 by omega)); have hsk := hsz.A q hqlt k (by omega); have hsw := hsz.A q hqlt L.w (by omega); refine vc_skip ?_; refine vc_keep [0, 3, 4, 5, 37, 38, 39] rfl ?_; refine vc_seq ?_; refine vc_block ?_; refine vc_sr ?_; refine vr 1 ?_; refine vco_at tbOk rfl rfl rfl rfl rfl (hrd4.le (rem_le _ _)) (by rw [Int.toNat_natCast]; exact hx4 q pq hpq) (by omega) (by omega) fun _ => ?_; refine vr 2 ?_; refine vco_k [0, 3, 4, 5, 6, 7, 37, 38, 39] ?_; refine vc_seq ?_; refine vc_sr ?_; refine vr 2 ?_; refine vco_at_st (vs := [.int .i64 nk, .int .i64 dk, .pointer bk]) tbOk rfl rfl rfl rfl hrk rfl (by decide) (by rw [Int.toNat_natCast]; exact hxk) (by omega) (by omega) fun _ => ?_; refine vco_call rfl rfl (Fn.frI h4.ne (ssign_ok hnk (by omega))) ?_; rintro v5 H5 ⟨hk5, hl5, rfl⟩; have h5 := h4.kept hk5; refine vr 1 ?_; refine vco_k [0, 3, 4, 5, 6, 7, 37, 38, 39, 49] ?_; refine vc_cond rfl (fun hb => ?_) (fun hb => ?_)
    ·
     have hb : T.A q k ≤ 0 := sgn_le.1 (by simpa using hb); refine vc_exit ?_; refine vc_keep [0, 3, 4, 5, 37, 38, 39] rfl ?_; refine vc_region rfl ?_; refine vco_add rfl rfl ⟨by omega, by omega⟩ ?_; refine vr 1 ?_; refine vco_end ?_; exact ⟨q + 1, row, ls, by omega, sub_auto, hk4.trans hk5, by omega, (hfo.le hk5.le).skip hb⟩
    ·
     have hpos : 0 < T.A q k := by
      have : ¬ sgnQ (T.A q k) ≤ 0 := by simpa using hb
      rw [sgn_le] at this; grind
     refine vc_skip ?_; refine vc_keep [0, 3, 4, 5, 6, 7, 37, 38, 39] rfl ?_; refine vc_sd .drawB [0, 1, 2, 3, 4, 5, 6, 7, 8, 9, 10, 11, 12, 13] follows (by kernel_rfl) ?_; refine vr 3 ?_; refine vco_hfld tbOk rfl rfl rfl ?_; refine vco_hload tbOk rfl rfl rfl (h5.cell0) ?_; refine vco_at_st (vs := [.int .i64 nw, .int .i64 dw, .pointer bw]) tbOk rfl rfl rfl rfl (hrw.le hl5) rfl (by decide) (by rw [Int.toNat_natCast]; exact hxw) (by omega) (by omega) fun _ => ?_; refine vr 2 ?_; refine vco_at_st (vs := [.int .i64 nk, .int .i64 dk, .pointer bk]) tbOk rfl rfl rfl rfl (hrk.le hl5) rfl (by decide) (by rw [Int.toNat_natCast]; exact hxk) (by omega) (by omega) fun _ => ?_; refine vco_callM rfl rfl (Fn.frM h5.ne (sdiv_ok (N := N) (hnw.le hk5.le) (hnk.le hk5.le) hsw hsk (by omega) (by grind))) (fun _ _ h => by first | exact h.le | exact h.1) ?_; rintro v6 H6 ⟨hk6, hl6, nq, dq, bq, rfl, hnq⟩; have h6 := h5.kept hk6; have hsq := szQ_div (T.A q L.w) (T.A q k); rw [← hTw] at hnq hsq hsw; have hfo6 := (hfo.le hk5.le).le hk6.le; refine vco_alloc el90 rfl ?_; obtain ⟨ti, hti, htz⟩ := sz90; refine vco_bstore (.inl ⟨rfl, rfl⟩) rfl rfl rfl hti htz rfl rfl rfl ?_; refine vco_k [0, 3, 4, 5, 6, 8, 37, 38, 39] ?_; refine vc_block ?_; refine vc_cut1 (fun (bz : Bool) => put (put (put (put (put (put (put (put (put (put (emp) 0 (.val (.pointer (some ⟨G.g, 0, none⟩)))) 3 (.val (.int .i64 (k : Int)))) 4 (.val (.int .i64 row))) 5 (.box [.int .i64 ls.1, .int .i64 ls.2.1, .pointer ls.2.2])) 6 (.val (.int .i64 (q : Int)))) 8 (.box [.int .i64 nq, .int .i64 dq, .pointer bq])) 37 (.val (.slice G.Ar T.m G.cr))) 38 (.val (.int .i64 (T.m : Int)))) 39 (.val (.int .i64 (q : Int)))) 62 (.val (.bool bz))) (fun (bz : Bool) H' => Kept G.gs H6 H' ∧ (bz = true → row = -1 ∨ ∀ r : Nat, row = (r : Int) → T.A q T.n / T.A q k < T.A r T.n / T.A r k) ∧ (bz = false → ∃ r : Nat, row = (r : Int) ∧ r < q ∧ ¬ T.A q T.n / T.A q k < T.A r T.n / T.A r k)) ?_ ?_
     ·
      refine vc_sr ?_; refine vr 3 ?_; refine vco_k [0, 3, 4, 5, 6, 8, 37, 38, 39, 62] ?_; refine vc_cond rfl (fun hb => ?_) (fun hb => ?_)
      ·
       have hb0 : row < 0 := by simpa using hb
       refine vc_skip ?_; exact ⟨_, sub_auto, .refl _ _, fun _ => .inl (by rcases hfo with hx | hx; exact hx.1; obtain ⟨r, hr, _⟩ := hx; omega), fun e => by rw [hb] at e; cases e⟩
      ·
       have hb0 : ¬ row < 0 := by simpa using hb
       obtain ⟨r1, hrow1, hr1q, hr1p, hls, _⟩ : ∃ r : Nat, row = (r : Int) ∧ r < q ∧ 0 < T.A r k ∧ NumV (rem H6 G.gs) [.int .i64 ls.1, .int .i64 ls.2.1, .pointer ls.2.2] (T.A r T.n / T.A r k) ∧ True := by
        rcases hfo6 with hx | ⟨r, h1, h2, h3, h4, _⟩
        · omega
        · exact ⟨r, h1, h2, h3, h4, trivial⟩
       have hsr := szQ_div (T.A r1 T.n) (T.A r1 k); have hs1 := hsz.A r1 (by omega) T.n (by omega); have hs2 := hsz.A r1 (by omega) k (by omega); refine vc_region rfl ?_; refine vr 2 ?_; refine vco_call rfl rfl (Fn.frM h6.ne (ssub_ok (N := 2 * N) hnq hls (by omega) (by omega) (by omega))) ?_; rintro va Ha ⟨hka, hla, na, da, ba, rfl, hna⟩; have hss := szQ_sub (T.A q T.n / T.A q k) (T.A r1 T.n / T.A r1 k); refine vco_call rfl rfl (Fn.frI (hka.ne h6.ne) (ssign_ok hna (by omega))) ?_; rintro vb Hb ⟨hkb, hlb, rfl⟩; refine vr 2 ?_; refine vco_end ?_; exact ⟨_, sub_auto, hka.trans hkb, fun e => .inr fun r hr => (by have := sgn_lt.1 (of_decide_eq_true e); obtain rfl : r = r1 := (by omega); grind), fun e => ⟨r1, hrow1, hr1q, fun hlt => of_decide_eq_false e (sgn_lt.2 (by grind))⟩⟩
     ·
      rintro bz H7 ⟨hk7, hb1, hb0⟩; have h7 := h6.kept hk7; have hk47 := ((hk4.trans hk5).trans hk6).trans hk7; have hfo7 := hfo6.le hk7.le; have hnq7 := hnq.le hk7.le; refine vc_cond rfl (fun hb => ?_) (fun hb => ?_)
      ·
       skip
       refine vc_draw .drawB [0, 1, 2, 3] follows (by kernel_rfl) ?_; refine vr 3 ?_; obtain ⟨ti, hti, htz⟩ := sz90; refine vco_bstore (.inl ⟨rfl, rfl⟩) rfl rfl rfl hti htz rfl rfl rfl ?_; refine vco_end ?_; refine vc_keep [0, 3, 4, 5, 37, 38, 39] rfl ?_; refine vc_region rfl ?_; refine vco_add rfl rfl ⟨by omega, by omega⟩ ?_; refine vr 1 ?_; refine vco_end ?_; exact ⟨q + 1, (q : Int), (nq, dq, bq), by omega, sub_auto, hk47, by omega, hfo7.new hpos hnq7 (hb1 hb)⟩
      ·
       obtain ⟨r1, hrow1, hr1q, hnlt⟩ := hb0 hb
       obtain ⟨hr1p, hls⟩ : 0 < T.A r1 k ∧ NumV (rem H7 G.gs) [.int .i64 ls.1, .int .i64 ls.2.1, .pointer ls.2.2] (T.A r1 T.n / T.A r1 k) := by
        rcases hfo7 with hx | ⟨r, h1, h2, h3, h4, _⟩
        · omega
        ·
         obtain rfl : r = r1 := by omega
         exact ⟨h3, h4⟩
       have hsr := szQ_div (T.A r1 T.n) (T.A r1 k); have hs1 := hsz.A r1 (by omega) T.n (by omega); have hs2 := hsz.A r1 (by omega) k (by omega); have hss := szQ_sub (T.A q T.n / T.A q k) (T.A r1 T.n / T.A r1 k)
       obtain ⟨gb, cb, sz, hbb, hbv, hgb⟩ : ∃ gb cb sz, G.bb = [gb] ∧ G.bv = .slice (some ⟨gb, 0, none⟩) T.m cb ∧ H7 gb = some ⟨basisC T.B T.m, sz, 3, true⟩ := by
        rcases h7.basis with h8 | h8
        ·
         have := h8.1
         omega
        · exact h8
       have hmb : gb ∈ G.gs := TG.bb_mem (by rw [hbb]; exact List.mem_singleton.2 rfl)
       by_cases heq : T.A q T.n / T.A q k = T.A r1 T.n / T.A r1 k
       ·
        skip
        refine vc_sd .drawB [0, 1, 2, 3, 4, 5, 6, 7, 8, 9, 10, 11, 12, 13, 14, 15, 16, 17, 18, 19, 20, 21, 22] follows (by kernel_rfl) ?_; refine vr 2 ?_; refine vco_callM rfl rfl (Fn.frM h7.ne (ssub_ok (N := 2 * N) hnq7 hls (by omega) (by omega) (by omega))) (fun _ _ h => by first | exact h.le | exact h.1) ?_; rintro va Ha ⟨hka, hla, na, da, ba, rfl, hna⟩; refine vco_callM rfl rfl (Fn.frI (hka.ne h7.ne) (ssign_ok hna (by omega))) (fun _ _ h => by first | exact h.le | exact h.1) ?_; rintro vb Hb ⟨hkb, hlb, rfl⟩; have h8 := (h7.kept hka).kept hkb
        have hl8 : cell Hb ((⟨G.g, 0, none⟩ : Addr).add 8) = some (.slice (some ⟨gb, 0, none⟩) T.m cb) := by rw [← hbv]; exact h8.cell rfl
        have hrb : Rd Hb (some ⟨gb, 0, none⟩) (basisC T.B T.m) := rd_at (by rw [hkb.same gb hmb, hka.same gb hmb]; exact hgb); refine vco_cmp true rfl rfl (ceq_t (sgn_eq.2 (by rw [heq]; grind))) ?_; refine vr 3 ?_; refine vco_hfld tbOk rfl rfl rfl ?_; refine vco_hload tbOk rfl rfl rfl (hl8) ?_; refine vr 1 ?_; refine vco_at tbOk rfl rfl rfl rfl rfl (hrb) (by rw [Int.toNat_natCast]; exact basisC_get hqlt) (by omega) (by omega) fun _ => ?_; refine vr 2 ?_; refine vco_hfld tbOk rfl rfl rfl ?_; refine vco_hload tbOk rfl rfl rfl (hl8) ?_; refine vr 1 ?_; refine vco_at tbOk rfl rfl rfl rfl rfl (hrb) (by rw [hrow1, Int.toNat_natCast]; exact basisC_get (by omega)) (by omega) (by omega) fun _ => ?_; refine vr 3 ?_; refine vco_k [0, 3, 4, 5, 6, 37, 38, 39, 72] ?_; refine vc_cond rfl (fun hb => ?_) (fun hb => ?_)
        ·
         have hB : T.B q < T.B r1 := by simp at hb; omega
         refine vc_region rfl ?_; refine vr 2 ?_; refine vco_end ?_; refine vc_keep [0, 3, 4, 5, 37, 38, 39] rfl ?_; refine vc_region rfl ?_; refine vco_add rfl rfl ⟨by omega, by omega⟩ ?_; refine vr 1 ?_; refine vco_end ?_; exact ⟨q + 1, (q : Int), ls, by omega, sub_auto, (hk47.trans hka).trans hkb, by omega, ((hfo7.le hka.le).le hkb.le).tie hpos hrow1 heq hB⟩
        ·
         have hB : T.B r1 ≤ T.B q := by simp at hb; omega
         refine vc_skip ?_; refine vc_keep [0, 3, 4, 5, 37, 38, 39] rfl ?_; refine vc_region rfl ?_; refine vco_add rfl rfl ⟨by omega, by omega⟩ ?_; refine vr 1 ?_; refine vco_end ?_; exact ⟨q + 1, row, ls, by omega, sub_auto, (hk47.trans hka).trans hkb, by omega, ((hfo7.le hka.le).le hkb.le).stay hpos hrow1 (.inr ⟨heq.symm, hB⟩)⟩
       ·
        skip
        refine vc_sd .drawB [0, 1, 2, 3, 4, 5, 6, 7, 8, 9, 10, 11, 12, 13, 14, 15, 16, 17, 18, 19, 20, 21, 22] follows (by kernel_rfl) ?_; refine vr 2 ?_; refine vco_callM rfl rfl (Fn.frM h7.ne (ssub_ok (N := 2 * N) hnq7 hls (by omega) (by omega) (by omega))) (fun _ _ h => by first | exact h.le | exact h.1) ?_; rintro va Ha ⟨hka, hla, na, da, ba, rfl, hna⟩; refine vco_callM rfl rfl (Fn.frI (hka.ne h7.ne) (ssign_ok hna (by omega))) (fun _ _ h => by first | exact h.le | exact h.1) ?_; rintro vb Hb ⟨hkb, hlb, rfl⟩; refine vco_cmp false rfl rfl (ceq_f (fun e => heq (by have := sgn_eq.1 e; grind))) ?_; refine vr 18 ?_; refine vco_k [0, 3, 4, 5, 6, 37, 38, 39, 72] ?_; refine vc_cond_f rfl ?_; refine vc_skip ?_; refine vc_keep [0, 3, 4, 5, 37, 38, 39] rfl ?_; refine vc_region rfl ?_; refine vco_add rfl rfl ⟨by omega, by omega⟩ ?_; refine vr 1 ?_; refine vco_end ?_; exact ⟨q + 1, row, ls, by omega, sub_auto, (hk47.trans hka).trans hkb, by omega, ((hfo7.le hka.le).le hkb.le).stay hpos hrow1 (.inl (by grind))⟩
   ·
    have hb : T.m ≤ q := by simpa using hb
    obtain rfl : q = T.m := by omega
    have hkK := hk3.trans hk4; refine vc_exit ?_; refine vc_keep [0, 3, 4] rfl ?_; refine vc_seq ?_; refine vc_sr ?_; refine vr 2 ?_; refine vco_k [0, 3, 4, 98] ?_; refine vc_cond rfl (fun hb => ?_) (fun hb => ?_)
    ·
     have hb0 : row < 0 := by simpa using hb
     have hall : ∀ i, i < T.m → T.A i k ≤ 0 := by
      rcases hfo with hx | ⟨r, hr, _⟩
      · exact hx.2
      · omega
     refine vc_sr ?_; refine vr 2 ?_; refine vco_k [2] ?_; refine vc_ret ⟨.inr rfl, _, .tmp rfl (.nil), ?_⟩; exact ⟨T, hI1, h4, hc3.kept hk4, hle1.trans hkK.le, .inr ⟨k, rfl, hlt, hneg, hall⟩⟩
    ·
     have hb0 : ¬ row < 0 := by simpa using hb
     obtain ⟨rr, hrr, hrm, hrp, hrl⟩ : ∃ r : Nat, row = (r : Int) ∧ r < T.m ∧ 0 < T.A r k ∧ ∀ i, i < T.m → 0 < T.A i k → T.A r T.n / T.A r k < T.A i T.n / T.A i k ∨ (T.A r T.n / T.A r k = T.A i T.n / T.A i k ∧ T.B r ≤ T.B i) := by
      rcases hfo with hx | ⟨r, h1, h2, h3, _, h5⟩
      · omega
      · exact ⟨r, h1, h2, h3, h5⟩
     have hbl : T.Bland L.u rr k := ⟨hlt, hneg, hpre, hrm, hrp, hrl⟩; obtain ⟨_, _, hsz', _, _⟩ := hinv _ (hstep _ _ _ hI1 hbl); refine vc_skip ?_; refine vc_keep [0, 3, 4] rfl ?_; refine vc_region rfl ?_; refine vr 3 ?_; refine vco_call rfl rfl (by rw [hrr]; exact pivot_ok (N := N) h4 (hc3.kept hk4) hrm (by omega) (by grind) hsz hsz' (by omega) hw hTm') ?_; rintro v9 H9 ⟨h9, hc9, hle9⟩; refine vco_end ?_; exact ⟨T.pivot rr k, ⟨rr, k, hbl, rfl⟩, sub_auto, h9, hc9, hstep _ _ _ hI1 hbl, (hle1.trans hkK.le).trans hle9⟩
end Go.Eng
/- How a tableau lies in memory, part 3: what is read of it while other blocks are written. -/
namespace Go.Eng
open Go.Proofs Num Lp
/-- What is read of a tableau: its numbers are valid in K. -/
structure TabW (K H : Heap) (G : TG) (L : TL) (T : Tab) : Prop where
  kh : Heap.le K H
  cell : ∀ (k : Nat) (v : Value), (G.cells L.w L.u T.m)[k]? = some v → Eng.cell H ((⟨G.g, 0, none⟩ : Addr).add k) = some v
  rows : ∃ xs, Rd H G.Ar xs ∧ ∀ i, i < T.m → ∃ p : Nat × Nat, xs[i]? = some (.slice (some ⟨p.1, 0, none⟩) (L.w + 1) p.2) ∧ BlkN K H p.1 (vals (T.A i) (L.w + 1))
  basis : T.m = 0 ∨ ∃ gb cb, G.bv = .slice (some ⟨gb, 0, none⟩) T.m cb ∧ Rd H (some ⟨gb, 0, none⟩) (basisC T.B T.m)
  bnil : T.m = 0 → ∃ A c, G.bv = .slice A 0 c
  plus : SlV NatP 1 H G.pv L.plus
  minus : SlV IntP 1 H G.mv L.minus
  units : SlV NatP 1 H G.uv L.units
  signs : SlV NumV 3 K G.sv L.signs
theorem TabV.w {H0 K H : Heap} {G : TG} {L : TL} {T : Tab} (h : TabV H0 G L T) (hle : Heap.le (rem H0 G.gs) K) (hk : Heap.le K H) (hs : ∀ q, q ∈ G.gs → H q = H0 q) : TabW K H G L T where
  kh := hk
  cell := fun k v hv => by
    have := hs _ G.g_mem
    simp [Eng.cell, addr0, this, h.st, hv]
  rows := by
    obtain ⟨xs, h1, h2⟩ := h.rows
    refine ⟨xs, h1.le (hle.trans hk), fun i hi => ?_⟩
    obtain ⟨p, hp⟩ := h.get hi
    exact ⟨p, h2 i p hp, (h.row i p hp).le hle (hs _ (TG.rg_mem hp))⟩
  basis := by
    rcases h.basis with h1 | ⟨gb, cb, sz, h1, h2, h3⟩
    · exact .inl h1.1
    · exact .inr ⟨gb, cb, h2, rd_at (by rw [hs _ (TG.bb_mem (by rw [h1]; exact List.mem_singleton.2 rfl))]; exact h3)⟩
  bnil := fun hm => by
    rcases h.basis with h1 | ⟨gb, cb, sz, h1, h2, h3⟩
    · exact ⟨none, 0, h1.2.2⟩
    · exact ⟨_, cb, by rw [h2, hm]⟩
  plus := (h.plus.le natUp hle).le natUp hk
  minus := (h.minus.le intUp hle).le intUp hk
  units := (h.units.le natUp hle).le natUp hk
  signs := h.signs.le numUp hle
theorem TabV.self {H : Heap} {G : TG} {L : TL} {T : Tab} (h : TabV H G L T) : TabW (rem H G.gs) H G L T := h.w (.refl _) (rem_le _ _) (fun _ _ => rfl)
/-- The basis is a slice of m columns. -/
theorem TabW.bv {K H : Heap} {G : TG} {L : TL} {T : Tab} (h : TabW K H G L T) : ∃ A c, G.bv = .slice A T.m c ∧ Rd H A (basisC T.B T.m) := by
  rcases h.basis with h1 | ⟨gb, cb, h1, h2⟩
  · obtain ⟨A, c, h2⟩ := h.bnil h1
    refine ⟨A, c, by rw [h1]; exact h2, fun i v hv => ?_⟩
    rw [h1] at hv
    simp [basisC] at hv
  · exact ⟨_, cb, h1, h2⟩
/-- An element of a list of single cells. -/
theorem SlV.one {α : Type} {P : Heap → List Value → α → Prop} {H : Heap} {v : Value} {l : List α} (h : SlV P 1 H v l) : ∃ A c xs, v = .slice A l.length c ∧ Rd H A xs ∧ ∀ (i : Nat) (a : α), l[i]? = some a → ∃ u, xs[i]? = some u ∧ P H [u] a := by
  obtain ⟨A, c, xs, h1, _, h3, h4⟩ := h
  exact ⟨A, c, xs, h1, h3, fun i a ha => h4.one ha⟩
theorem SlV.num {H : Heap} {v : Value} {l : List Rat} (h : SlV NumV 3 H v l) : ∃ A c xs, v = .slice A l.length c ∧ Rd H A xs ∧ ∀ (i : Nat) (q : Rat), l[i]? = some q → ∃ n d b, NumV H [.int .i64 n, .int .i64 d, .pointer b] q ∧ ∀ (j : Nat) (u : Value), [.int .i64 n, .int .i64 d, .pointer b][j]? = some u → xs[i * 3 + j]? = some u := by
  obtain ⟨A, c, xs, h1, _, h3, h4⟩ := h
  refine ⟨A, c, xs, h1, h3, fun i q hq => ?_⟩
  obtain ⟨vs, _, h5, h6⟩ := h4.get hq
  obtain ⟨n, d, b, rfl⟩ := h5.cells
  exact ⟨n, d, b, h5, h6⟩
/-- Memory of the call's own beside the blocks gs: a block z with the cells xs. -/
structure Work (gs : List Nat) (H0 H : Heap) (z : Nat) (xs : List Value) (sz e : Nat) : Prop where
  blk : H z = some ⟨xs, sz, e, true⟩
  zn : H0 z = none
  zg : ¬ z ∈ gs
  le : Heap.le (rem H0 gs) (rem H (z :: gs))
  same : ∀ q, q ∈ gs → H q = H0 q
section
variable {gs : List Nat} {H0 H H' : Heap} {z : Nat} {xs xs' : List Value} {sz e : Nat}
theorem Work.new (hn : ∀ q, q ∈ gs → H0 q ≠ none) (hz : H0 z = none) : Work gs H0 (ins H0 z ⟨xs, sz, e, true⟩) z xs sz e :=
  ⟨ins_same _ _ _, hz, fun h => hn z h hz, by rw [rem_ins_new _ hz]; exact .refl _, fun q hq => ins_other _ _ (fun e => hn q hq (by rw [e]; exact hz))⟩
theorem Work.ne (h : Work gs H0 H z xs sz e) (hn : ∀ q, q ∈ gs → H0 q ≠ none) : ∀ q, q ∈ z :: gs → H q ≠ none := fun q hq => by
  rcases List.mem_cons.1 hq with rfl | hq
  · rw [h.blk]; simp
  · rw [h.same q hq]; exact hn q hq
theorem Work.kept (h : Work gs H0 H z xs sz e) (k : Kept (z :: gs) H H') : Work gs H0 H' z xs sz e :=
  ⟨by rw [k.same z (List.mem_cons_self ..)]; exact h.blk, h.zn, h.zg, h.le.trans k.le, fun q hq => (k.same q (List.mem_cons_of_mem _ hq)).trans (h.same q hq)⟩
theorem Work.set (h : Work gs H0 H z xs sz e) {en : Ent} (he : en = ⟨xs', sz, e, true⟩) : Work gs H0 (ins H z en) z xs' sz e :=
  ⟨by rw [ins_same, he], h.zn, h.zg, by rw [rem_ins_in _ (List.mem_cons_self ..)]; exact h.le, fun q hq => by rw [ins_other _ _ (fun (e' : q = z) => h.zg (by rw [← e']; exact hq))]; exact h.same q hq⟩
theorem Work.hle (h : Work gs H0 H z xs sz e) : Heap.le H0 H := fun g en hg => by
  by_cases hm : g ∈ gs
  · exact ⟨en, by rw [h.same g hm]; exact hg, .refl en⟩
  · obtain ⟨e', h1, h2⟩ := h.le g en (by rw [rem_out hm]; exact hg)
    obtain ⟨e'', h3, h4⟩ := rem_le H (z :: gs) g e' h1
    exact ⟨e'', h3, h2.trans h4⟩
/-- At the end the block is memory as any other. -/
theorem Work.done (h : Work gs H0 H z xs sz e) : Kept gs H0 H ∧ Heap.le (rem H (z :: gs)) (rem H gs) := ⟨⟨h.le.trans (rem_cons_le H z gs), h.same⟩, rem_cons_le H z gs⟩
theorem Work.rd (h : Work gs H0 H z xs sz e) : Rd (rem H gs) (some ⟨z, 0, none⟩) xs := fun i v hv => ⟨_, rfl, by simp [Eng.cell, addr0, rem_out h.zg, h.blk, hv]⟩
theorem Work.tab {H : Heap} {G : TG} {L : TL} {T : Tab} (ht : TabV H0 G L T) (h : Work G.gs H0 H z xs sz e) : TabW (rem H (z :: G.gs)) H G L T := ht.w h.le (rem_le _ _) h.same
end
/-- What a call leaves that makes a list beside the blocks gs. -/
structure FrS {α : Type} (P : Heap → List Value → α → Prop) (s : Nat) (gs : List Nat) (H : Heap) (l : List α) (v : Value) (H' : Heap) : Prop where
  kept : Kept gs H H'
  le : Heap.le H H'
  val : SlV P s (rem H' gs) v l
theorem Fn.frS {α : Type} {P : Heap → List Value → α → Prop} {s : Nat} {Q : Program} {f : FuncId} {args : Array Value} {H : Heap} {gs : List Nat} {l : List α} (hgs : ∀ g, g ∈ gs → H g ≠ none) (h : Fn Q f args (rem H gs) (RetS P s (rem H gs) l)) : Fn Q f args H (FrS P s gs H l) :=
  (Fn.frame hgs h).mono fun v H' hf => ⟨.of hf fun v K hp => hp.1, hf.le fun v K hp => hp.1, hf.post.2⟩
/-- .. that makes zeros. -/
structure FrZ (gs : List Nat) (H : Heap) (n : Nat) (v : Value) (H' : Heap) : Prop where
  le : Heap.le H H'
  val : ∃ z xs, v = .slice (some ⟨z, 0, none⟩) n n ∧ Work gs H H' z xs (n * 3) 90 ∧ ∀ K : Heap, Els (NumV K) 3 xs (vals (fun _ => 0) n)
theorem vals_const (n : Nat) : vals (fun _ => 0) n = List.replicate n 0 := by
  apply List.ext_getElem?
  intro i
  by_cases h : i < n
  · rw [vals_get h, List.getElem?_replicate, if_pos h]
  · rw [List.getElem?_eq_none (by rw [vals_len]; omega), List.getElem?_eq_none (by rw [List.length_replicate]; omega)]
theorem zeros_fr {H : Heap} {gs : List Nat} (hgs : ∀ g, g ∈ gs → H g ≠ none) {n : Nat} (hn : (n : Int) ≤ 8796093022208) : Fn Tryz.prog 56 #[.int .i64 (n : Int)] H (FrZ gs H n) :=
  (szeros_ok hn).mono fun v H' ⟨g, xs, h1, h2, h3, h4⟩ => by
    rw [List.length_replicate] at h2 h3
    refine ⟨by rw [h3]; exact Heap.le_ins _ h1, g, xs, h2, by rw [h3]; exact .new hgs h1, fun K => by rw [vals_const]; exact h4 K⟩
/-- One value of a function changed. -/
def upd (f : Nat → Rat) (k : Nat) (q : Rat) (j : Nat) : Rat := if j = k then q else f j
theorem vals_set {f : Nat → Rat} {n k : Nat} {q : Rat} : (vals f n).set k q = vals (upd f k q) n := by
  apply List.ext_getElem?
  intro j
  by_cases hj : j < n
  · by_cases e : j = k
    · subst e
      rw [List.getElem?_set_self (by rw [vals_len]; exact hj), vals_get hj]; simp [upd]
    · rw [List.getElem?_set_ne (fun e' => e e'.symm), vals_get hj, vals_get hj]; simp [upd, e]
  · rw [List.getElem?_eq_none (by rw [List.length_set, vals_len]; omega), List.getElem?_eq_none (by rw [vals_len]; omega)]
theorem els_upd {K : Heap} {xs vs : List Value} {f : Nat → Rat} {n k : Nat} {q : Rat} (h : Els (NumV K) 3 xs (vals f n)) (hk : k < n) (hv : NumV K vs q) : Els (NumV K) 3 (splice xs (k * 3) vs) (vals (upd f k q) n) := by
  rw [← vals_set]; exact h.set (by rw [vals_len]; exact hk) hv hv.len
theorem ent_set {xs vs : List Value} {s e k sz : Nat} : ({ (⟨xs, s, e, true⟩ : Ent) with xs := splice xs (0 + k * sz) vs } : Ent) = ⟨splice xs (k * sz) vs, s, e, true⟩ := by rw [Nat.zero_add]
end Go.Eng
/- Walks over package simplex, tableau.go, part 4: value, penalties, expel. -/
namespace Go.Eng
open Go.Proofs Num Lp
theorem pen_upd {u k : Nat} (h : u ≤ k) (j : Nat) : Tab.pen u (k + 1) j = upd (Tab.pen u k) k 1 j := by
  unfold upd Tab.pen
  by_cases e : j = k
  · rw [if_pos (by omega), if_pos e]
  · rw [if_neg e]
    by_cases e2 : u ≤ j ∧ j < k
    · rw [if_pos (by omega)]; simp only [e2, and_self, if_true]
    · rw [if_neg (by omega)]; simp only [e2, if_false]
theorem value_ok {H : Heap} {G : TG} {L : TL} {T : Tab} (h : TabV H G L T) (hc : CostV H G L T) (hs : (szQ (T.c L.w) : Int) ≤ 1099511627776) :
  Fn Tryz.prog 52 #[.pointer (some ⟨G.g, 0, none⟩)] H (FrM G.gs H (-(T.c L.w))) := by
 obtain ⟨gc, cc, hcb, hcv, hbc⟩ := id hc
 obtain ⟨xc, nc, dc, bc, hrc, hnc, hxc⟩ := hbc.rd (vals_get (show L.w < L.w + 1 by omega))
 have hl7 : cell H ((⟨G.g, 0, none⟩ : Addr).add 7) = some (.slice (some ⟨gc, 0, none⟩) (L.w + 1) cc) := by rw [← hcv]; exact h.cell rfl
 refine fn_intro (args := [_]) Tryz.func52 rfl rfl Tryz.ntmps52 rfl rfl fun w0 => ?_; refine vc_keep [0] rfl ?_; refine vc_sr ?_; refine vco_alloc el90 rfl ?_; refine vco_k [0, 2] ?_; refine vc_sd .drawB [0, 1, 2, 3, 4, 5, 6, 7, 8, 9, 10, 11] follows (by kernel_rfl) ?_; refine vr 2 ?_; refine vco_hfld tbOk rfl rfl rfl ?_; refine vco_hload tbOk rfl rfl rfl (hl7) ?_; refine vr 2 ?_; refine vco_hfld tbOk rfl rfl rfl ?_; refine vco_hload tbOk rfl rfl rfl (h.cell0) ?_; refine vco_at_st (vs := [.int .i64 nc, .int .i64 dc, .pointer bc]) tbOk rfl rfl rfl rfl hrc rfl (by decide) (by rw [Int.toNat_natCast]; exact hxc) (by omega) (by omega) fun _ => ?_; refine vco_callM rfl rfl (Fn.frM h.ne (sneg_ok hnc hs)) (fun _ _ h => by first | exact h.le | exact h.1) ?_; rintro v1 H1 ⟨hk1, hl1, n1, d1, b1, rfl, hq1⟩; obtain ⟨ti, hti, htz⟩ := sz90; refine vco_bstore (.inl ⟨rfl, rfl⟩) rfl rfl rfl hti htz rfl rfl rfl ?_; refine vco_k [2] ?_; obtain ⟨ri0, rhi0, rhz0⟩ := sz90; refine vc_ret ⟨.inr rfl, _, .agg rfl Tryz.underlying90 rhi0 rhz0 (.nil), ?_⟩; exact ⟨hk1, hl1, n1, d1, b1, rfl, hq1⟩
theorem penalties_ok {H : Heap} {G : TG} {L : TL} {T : Tab} (h : TabV H G L T) (hw : (L.w : Int) ≤ 1000000) :
  Fn Tryz.prog 50 #[.pointer (some ⟨G.g, 0, none⟩)] H (FrS NumV 3 G.gs H (vals (Tab.pen L.u L.w) L.w)) := by
 have huw := h.uw; refine fn_intro (args := [_]) Tryz.func50 rfl rfl Tryz.ntmps50 rfl rfl fun w0 => ?_; refine vc_keep [0] rfl ?_; refine vc_sr ?_; refine vr 1 ?_; refine vco_k [0] ?_; refine vc_sr ?_; refine vr 2 ?_; refine vco_hfld tbOk rfl rfl rfl ?_; refine vco_hload tbOk rfl rfl rfl (h.cell0) ?_; refine vco_call rfl rfl (zeros_fr h.ne (by omega)) ?_; rintro v1 H1 ⟨hl1, z, xs, rfl, hwk, hel⟩; have hw1 := hwk.tab h; refine vr 1 ?_; refine vco_k [0, 3] ?_; refine vc_seq ?_; refine vc_sr ?_; refine vr 2 ?_; refine vco_hfld tbOk rfl rfl rfl ?_; refine vco_hload tbOk rfl rfl rfl (hw1.cell 1 _ rfl) ?_; refine vr 1 ?_; refine vco_k [0, 3, 4] ?_; refine vc_block ?_; refine vc_loop2 (fun (k : Nat) (xs : List Value) => L.w - k) (fun (k : Nat) (xs : List Value) => put (put (put (emp) 0 (.val (.pointer (some ⟨G.g, 0, none⟩)))) 3 (.val (.slice (some ⟨z, 0, none⟩) L.w L.w))) 4 (.val (.int .i64 (k : Int)))) (fun (k : Nat) (xs : List Value) H' => Work G.gs H H' z xs (L.w * 3) 90 ∧ (∀ K : Heap, Els (NumV K) 3 xs (vals (Tab.pen L.u k) L.w)) ∧ L.u ≤ k ∧ k ≤ L.w) L.u xs (⟨hwk, fun K => by rw [vals_congr (g := fun _ => 0) (fun j _ => by unfold Tab.pen; rw [if_neg (by omega)])]; exact hel K, Nat.le_refl _, huw⟩) sub_auto ?_; rintro k xs H2 ⟨hwk2, hel2, huk, hkw⟩; have hw2 := hwk2.tab h; have hxl := (hel2 H).len; rw [vals_len] at hxl; refine vc_seq ?_; refine vc_sr ?_; refine vr 3 ?_; refine vco_hfld tbOk rfl rfl rfl ?_
 refine vco_hload tbOk rfl rfl rfl (by have := hw2.cell 0 _ rfl; rwa [addr0] at this) ?_; refine vr 1 ?_; refine vco_k [0, 3, 4, 19] ?_; refine vc_cond rfl (fun hb => ?_) (fun hb => ?_)
 ·
  have hb : k < L.w := by simpa using hb
  refine vc_skip ?_; refine vc_keep [0, 3, 4] rfl ?_; refine vc_seq ?_; refine vc_block ?_; refine vc_region rfl ?_; refine vr 2 ?_; refine vco_call rfl rfl (swhole_ok) ?_; rintro v3 H3 ⟨e3, rfl⟩; rw [e3]; obtain ⟨ti, hti, htz⟩ := sz90; refine vco_set (.inl rfl) tbOk rfl rfl rfl (by omega) (by omega) (hwk2.blk) rfl (by show 0 + L.w * 3 ≤ xs.length; omega) hti htz (fun _ => rfl) rfl rfl rfl fun _ => ?_; refine vco_end ?_; refine vc_keep [0, 3, 4] rfl ?_; refine vc_region rfl ?_; refine vr 1 ?_; refine vco_add rfl rfl ⟨by omega, by omega⟩ ?_; refine vr 1 ?_; refine vco_end ?_; exact ⟨k + 1, splice xs (k * 3) [.int .i64 1, .int .i64 1, .pointer none], by omega, sub_auto, hwk2.set ent_set, fun K => by rw [vals_congr (g := upd (Tab.pen L.u k) k 1) (fun j _ => pen_upd huk j)]; exact els_upd (hel2 K) hb (numV_int K (n := 1) (by decide) (by decide)), by omega, by omega⟩
 ·
  have hb : L.w ≤ k := by simpa using hb
  obtain rfl : k = L.w := by omega
  refine vc_exit ?_; refine vc_keep [3] rfl ?_; refine vc_sr ?_; refine vr 2 ?_; refine vco_k [2] ?_; refine vc_ret ⟨.inr rfl, _, .tmp rfl (.nil), ?_⟩; exact ⟨hwk2.done.1, hwk2.hle, some ⟨z, 0, none⟩, L.w, xs, by rw [vals_len]; rfl, by rw [vals_len]; exact Nat.le_refl _, hwk2.rd, hel2 _⟩
theorem expel_ok {H : Heap} {G : TG} {L : TL} {T0 : Tab} {N : Nat} {J : Nat → Tab → Prop} (h : TabV H G L T0) (hc : CostV H G L T0) (hJ : J 0 T0) (hskip : ∀ k S, J k S → k < S.m → (S.B k < L.u ∨ ∀ j, j < L.u → S.A k j = 0) → J (k + 1) S)
  (hpiv : ∀ k S s, J k S → k < S.m → L.u ≤ S.B k → s < L.u → S.A k s ≠ 0 → J (k + 1) (S.pivot k s)) (hinv : ∀ k S, J k S → Sz N S ∧ S.m = T0.m ∧ S.n = T0.n) (hN : (N : Int) ≤ 137438953472) (hw : (L.w : Int) ≤ 1000000) (hm : (T0.m : Int) ≤ 1000000) :
  Fn Tryz.prog 55 #[.pointer (some ⟨G.g, 0, none⟩)] H (fun _ H' => ∃ T, J T0.m T ∧ TabV H' G L T ∧ CostV H' G L T ∧ Heap.le (rem H G.gs) (rem H' G.gs)) := by
 have huw := h.uw
 obtain ⟨Ab, cb, hbv, _⟩ := h.self.bv
 have hl8 : cell H ((⟨G.g, 0, none⟩ : Addr).add 8) = some (.slice Ab T0.m cb) := by rw [← hbv]; exact h.cell rfl
 refine fn_intro (args := [_]) Tryz.func55 rfl rfl Tryz.ntmps55 rfl rfl fun w0 => ?_; refine vc_keep [0] rfl ?_; refine vc_sr ?_; refine vr 2 ?_; refine vco_hfld tbOk rfl rfl rfl ?_; refine vco_hload tbOk rfl rfl rfl (hl8) ?_; refine vr 2 ?_; refine vco_k [0, 8, 9, 10] ?_; refine vc_block ?_; refine vc_loop2 (fun (k : Nat) (T : Tab) => T0.m - k) (fun (k : Nat) (T : Tab) => put (put (put (put (emp) 0 (.val (.pointer (some ⟨G.g, 0, none⟩)))) 8 (.val (.slice Ab T0.m cb))) 9 (.val (.int .i64 (T0.m : Int)))) 10 (.val (.int .i64 (k : Int)))) (fun (k : Nat) (T : Tab) H' => TabV H' G L T ∧ CostV H' G L T ∧ J k T ∧ Heap.le (rem H G.gs) (rem H' G.gs) ∧ k ≤ T0.m) 0 T0 (⟨h, hc, hJ, .refl _, Nat.zero_le _⟩) sub_auto ?_; rintro k T H1 ⟨h1, hc1, hJ1, hle1, hk1⟩; obtain ⟨hsz, hTm, hTn⟩ := hinv k T hJ1; obtain ⟨A2, c2, hbv2, hrb2⟩ := h1.self.bv; rw [hbv] at hbv2
 obtain ⟨rfl, -, rfl⟩ : Ab = A2 ∧ T0.m = T.m ∧ cb = c2 := by simpa using hbv2
 refine vc_sr ?_; refine vr 1 ?_; refine vco_k [0, 8, 9, 10, 11] ?_; refine vc_seq ?_; refine vc_cond rfl (fun hb => ?_) (fun hb => ?_)
 ·
  have hkm : k < T0.m := by simpa using hb
  have hkT : k < T.m := by omega
  obtain ⟨pk, hpk⟩ := h1.get hkT; refine vc_skip ?_; refine vc_keep [0, 8, 9, 10] rfl ?_; refine vc_seq ?_; refine vc_block ?_; refine vc_sr ?_; refine vr 1 ?_; refine vco_at tbOk rfl rfl rfl rfl rfl (hrb2) (by rw [Int.toNat_natCast]; exact basisC_get hkT) (by omega) (by omega) fun _ => ?_; refine vr 2 ?_; refine vco_k [0, 2, 3, 8, 9, 10] ?_; refine vc_seq ?_; refine vc_sr ?_; refine vr 3 ?_; refine vco_hfld tbOk rfl rfl rfl ?_; refine vco_hload tbOk rfl rfl rfl (h1.cell rfl) ?_; refine vr 1 ?_; refine vco_k [0, 2, 8, 9, 10, 20] ?_; refine vc_cond rfl (fun hb => ?_) (fun hb => ?_)
  ·
   have hb : T.B k < L.u := by simp at hb; omega
   refine vc_exit ?_; refine vc_keep [0, 8, 9, 10] rfl ?_; refine vc_region rfl ?_; refine vco_add rfl rfl ⟨by omega, by omega⟩ ?_; refine vr 1 ?_; refine vco_end ?_; exact ⟨k + 1, T, by omega, sub_auto, h1, hc1, hskip k T hJ1 hkT (.inl hb), hle1, by omega⟩
  ·
   have hBu : L.u ≤ T.B k := by simp at hb; omega
   refine vc_skip ?_; refine vc_keep [0, 2, 8, 9, 10] rfl ?_; refine vc_sr ?_; refine vr 2 ?_; refine vco_hfld tbOk rfl rfl rfl ?_; refine vco_hload tbOk rfl rfl rfl (h1.cell rfl) ?_; refine vr 1 ?_; refine vco_k [0, 2, 8, 9, 10, 24, 25] ?_; refine vc_block ?_; refine vc_loop1 (fun (j : Nat) => L.u - j) (fun (j : Nat) => put (put (put (put (put (put (put (emp) 0 (.val (.pointer (some ⟨G.g, 0, none⟩)))) 2 (.val (.int .i64 (k : Int)))) 8 (.val (.slice Ab T0.m cb))) 9 (.val (.int .i64 (T0.m : Int)))) 10 (.val (.int .i64 (k : Int)))) 24 (.val (.int .i64 (L.u : Int)))) 25 (.val (.int .i64 (j : Int)))) (fun (j : Nat) H' => Kept G.gs H1 H' ∧ j ≤ L.u ∧ ∀ i, i < j → T.A k i = 0) 0 (⟨.refl _ _, Nat.zero_le _, fun i hi => by omega⟩) sub_auto ?_; rintro j H3 ⟨hk3, hju, hz3⟩; have h3 := h1.kept hk3; refine vc_sr ?_; refine vr 1 ?_; refine vco_k [0, 2, 8, 9, 10, 24, 25, 26] ?_; refine vc_seq ?_; refine vc_cond rfl (fun hb => ?_) (fun hb => ?_)
   ·
    have hjl : j < L.u := by simpa using hb
    obtain ⟨xs3, hrd3, hx3⟩ := h3.rows; obtain ⟨xj, nj, dj, bj, hrj, hnj, hxj⟩ := (h3.row k pk hpk).rd (vals_get (show j < L.w + 1 by omega)); have hsj := hsz.A k hkT j (by rw [h1.n]; omega); refine vc_skip ?_; refine vc_keep [0, 2, 8, 9, 10, 24, 25] rfl ?_; refine vc_seq ?_; refine vc_block ?_; refine vc_sr ?_; refine vr 2 ?_; refine vco_k [0, 2, 4, 8, 9, 10, 24, 25] ?_; refine vc_sr ?_; refine vr 2 ?_; refine vco_hfld tbOk rfl rfl rfl ?_; refine vco_hload tbOk rfl rfl rfl (h3.cell rfl) ?_; refine vr 1 ?_; refine vco_at tbOk rfl rfl rfl rfl rfl (hrd3.le (rem_le _ _)) (by rw [Int.toNat_natCast]; exact hx3 k pk hpk) (by omega) (by omega) fun _ => ?_; refine vr 1 ?_; refine vco_at_st (vs := [.int .i64 nj, .int .i64 dj, .pointer bj]) tbOk rfl rfl rfl rfl hrj rfl (by decide) (by rw [Int.toNat_natCast]; exact hxj) (by omega) (by omega) fun _ => ?_; refine vco_call rfl rfl (Fn.frI h3.ne (ssign_ok hnj (by omega))) ?_; rintro v4 H4 ⟨hk4, hl4, rfl⟩; have h4 := h3.kept hk4; refine vr 1 ?_; refine vco_k [0, 2, 4, 8, 9, 10, 24, 25, 39] ?_; refine vc_cond rfl (fun hb => ?_) (fun hb => ?_)
    ·
     have hnz : T.A k j ≠ 0 := fun e => by rw [e] at hb; simp [sgnQ] at hb
     have hJ5 := hpiv k T j hJ1 hkT hBu hjl hnz; obtain ⟨hsz5, _, _⟩ := hinv _ _ hJ5; refine vc_sr ?_; refine vr 3 ?_; refine vco_call rfl rfl (pivot_ok (N := N) h4 ((hc1.kept hk3).kept hk4) hkT (by omega) hnz hsz hsz5 (by omega) hw (by omega)) ?_; rintro v5 H5 ⟨h5, hc5, hle5⟩; refine vco_k [0, 8, 9, 10] ?_; refine vc_exit ?_; refine vc_keep [0, 8, 9, 10] rfl ?_; refine vc_region rfl ?_; refine vco_add rfl rfl ⟨by omega, by omega⟩ ?_; refine vr 1 ?_; refine vco_end ?_; exact ⟨k + 1, T.pivot k j, by omega, sub_auto, h5, hc5, hJ5, (hle1.trans (hk3.trans hk4).le).trans hle5, by omega⟩
    ·
     have hb : T.A k j = 0 := sgn_zero (by simpa using hb); refine vc_skip ?_; refine vc_keep [0, 2, 8, 9, 10, 24, 25] rfl ?_; refine vc_region rfl ?_; refine vco_add rfl rfl ⟨by omega, by omega⟩ ?_; refine vr 1 ?_; refine vco_end ?_; exact ⟨j + 1, by omega, sub_auto, hk3.trans hk4, by omega, fun i hi => by by_cases e : i = j; (rw [e]; exact hb); exact hz3 i (by omega)⟩
   ·
    have hb : L.u ≤ j := by simpa using hb
    obtain rfl : j = L.u := by omega
    refine vc_exit ?_; refine vc_keep [0, 8, 9, 10] rfl ?_; refine vc_region rfl ?_; refine vco_add rfl rfl ⟨by omega, by omega⟩ ?_; refine vr 1 ?_; refine vco_end ?_; exact ⟨k + 1, T, by omega, sub_auto, h3, hc1.kept hk3, hskip k T hJ1 hkT (.inr hz3), hle1.trans hk3.le, by omega⟩
 ·
  have hb : T0.m ≤ k := by simpa using hb
  obtain rfl : k = T0.m := by omega
  refine vc_exit ?_; refine ⟨.inl rfl, _, .nil, ?_⟩; exact ⟨T, hJ1, h1, hc1, hle1⟩
end Go.Eng
/- Walks over package simplex, tableau.go, part 5: combine, point, ray, dual. -/
namespace Go.Eng
open Go.Proofs Num Lp
def TL.pF (L : TL) (j : Nat) : Nat := L.plus.getD j 0
def TL.mZ (L : TL) (j : Nat) : Int := L.minus.getD j (-1)
def TL.mF (L : TL) (j : Nat) : Option Nat := if 0 ≤ L.mZ j then some (L.mZ j).toNat else none
def TL.uF (L : TL) (i : Nat) : Nat := L.units.getD i 0
def TL.sF (L : TL) (i : Nat) : Rat := fn L.signs i
/-- The lists fit a program of n columns and m rows. -/
structure TL.Ok (L : TL) (n m : Nat) : Prop where
  plen : L.plus.length = n
  mlen : L.minus.length = n
  ulen : L.units.length = m
  slen : L.signs.length = m
  pw : ∀ j, j < n → L.pF j < L.w
  mw : ∀ j, j < n → L.mZ j < L.w
  uw : ∀ i, i < m → L.uF i < L.w
  s1 : ∀ i, i < m → szQ (L.sF i) ≤ 1
section
variable {L : TL} {n m : Nat}
theorem TL.Ok.p (h : L.Ok n m) {j : Nat} (hj : j < n) : L.plus[j]? = some (L.pF j) := by
  have : j < L.plus.length := by rw [h.plen]; exact hj
  simp [TL.pF, List.getD, List.getElem?_eq_getElem this]
theorem TL.Ok.mi (h : L.Ok n m) {j : Nat} (hj : j < n) : L.minus[j]? = some (L.mZ j) := by
  have : j < L.minus.length := by rw [h.mlen]; exact hj
  simp [TL.mZ, List.getD, List.getElem?_eq_getElem this]
theorem TL.Ok.u (h : L.Ok n m) {i : Nat} (hi : i < m) : L.units[i]? = some (L.uF i) := by
  have : i < L.units.length := by rw [h.ulen]; exact hi
  simp [TL.uF, List.getD, List.getElem?_eq_getElem this]
theorem TL.Ok.s (h : L.Ok n m) {i : Nat} (hi : i < m) : L.signs[i]? = some (L.sF i) := by
  have : i < L.signs.length := by rw [h.slen]; exact hi
  simp [TL.sF, fn, List.getD, List.getElem?_eq_getElem this]
end
theorem set_two {α : Type} (l : List α) (k : Nat) (a b : α) : (l.set k a).set k b = l.set k b := by simp
theorem els_opt_set {K : Heap} {xs vs : List Value} {l : List (Option Rat)} {k : Nat} {q : Rat} (h : Els (Opt NumV K) 3 xs l) (hk : k < l.length) (hv : NumV K vs q) : Els (Opt NumV K) 3 (splice xs (k * 3) vs) (l.set k (some q)) := h.set hk (show Opt NumV K vs (some q) from hv) hv.len
theorem els_vals {K : Heap} {xs : List Value} {f : Nat → Rat} {n : Nat} (h : Els (Opt NumV K) 3 xs (fill (vals f n) n)) : Els (NumV K) 3 xs (vals f n) := fill_els (by rw [vals_len]; exact h)
theorem combine_ok {H : Heap} {G : TG} {L : TL} {T : Tab} {n m N : Nat} {v : Value} {f : Nat → Rat} (h : TabV H G L T) (hL : L.Ok n m) (hv : SlV NumV 3 (rem H G.gs) v (vals f L.w)) (hf : ∀ j, j < L.w → szQ (f j) ≤ N) (hN : (N : Int) ≤ 274877906944) (hw : (L.w : Int) ≤ 1000000) (hn : (n : Int) ≤ 1000000) :
  Fn Tryz.prog 132 #[.pointer (some ⟨G.g, 0, none⟩), v] H (FrS CanP 3 G.gs H (vals (Lay.vec L.pF L.mF f) n)) := by
 obtain ⟨Av, cv, xv, rfl, hrv, hxv⟩ := hv.num
 rw [vals_len]
 have hw0 := h.self
 obtain ⟨Ap, cp, xp, hpv, hrp, hxp⟩ := hw0.plus.one
 obtain ⟨Am, cm, xm, hmv, hrm, hxm⟩ := hw0.minus.one
 rw [hL.plen] at hpv
 rw [hL.mlen] at hmv
 obtain ⟨l, hl⟩ : ∃ l, l = Lay.vec L.pF L.mF f := ⟨_, rfl⟩
 have hl2 : cell H ((⟨G.g, 0, none⟩ : Addr).add 2) = some (.slice Ap n cp) := by rw [← hpv]; exact h.cell rfl
 refine fn_intro (args := [_, _]) Tryz.func132 rfl rfl Tryz.ntmps132 rfl rfl fun w0 => ?_; refine vc_keep [0, 1] rfl ?_; refine vc_sr ?_; refine vr 1 ?_; refine vco_k [0, 1] ?_; refine vc_sr ?_; refine vr 2 ?_; refine vco_hfld tbOk rfl rfl rfl ?_; refine vco_hload tbOk rfl rfl rfl (hl2) ?_; refine vr 1 ?_; refine vco_make Tryz.underlying85 el90 rfl rfl rfl (by omega) (by omega) (by omega) (by omega) ?_; intro z hz0; rw [show ((n : Int)).toNat = n from by omega]; have hwk : Work G.gs H _ z (madeL [.int .i64 0, .int .i64 0, .pointer none] (n * 3)) (n * 3) 90 := Work.new h.ne hz0
 have hel : Els (Opt NumV (rem (ins H z ⟨madeL [.int .i64 0, .int .i64 0, .pointer none] (n * 3), n * 3, 90, true⟩) (z :: G.gs))) 3 (madeL [.int .i64 0, .int .i64 0, .pointer none] (n * 3)) (fill (vals l n) 0) := by have := opt_made (P := NumV) (H := rem (ins H z ⟨madeL [.int .i64 0, .int .i64 0, .pointer none] (n * 3), n * 3, 90, true⟩) (z :: G.gs)) (zs := [.int .i64 0, .int .i64 0, .pointer none]) (sz := 3) (by rfl) (vals l n); rwa [vals_len] at this
 refine vr 1 ?_; refine vco_k [0, 1, 5] ?_; refine vc_seq ?_; refine vc_sr ?_; refine vr 3 ?_; refine vco_k [0, 1, 5, 14, 15] ?_; refine vc_block ?_; refine vc_loop2 (fun (k : Nat) (xs : List Value) => n - k) (fun (k : Nat) (xs : List Value) => put (put (put (put (put (emp) 0 (.val (.pointer (some ⟨G.g, 0, none⟩)))) 1 (.val (.slice Av L.w cv))) 5 (.val (.slice (some ⟨z, 0, none⟩) n n))) 14 (.val (.int .i64 (n : Int)))) 15 (.val (.int .i64 (k : Int)))) (fun (k : Nat) (xs : List Value) H' => Work G.gs H H' z xs (n * 3) 90 ∧ Els (Opt NumV (rem H' (z :: G.gs))) 3 xs (fill (vals l n) k) ∧ k ≤ n) 0 _ (⟨hwk, hel, Nat.zero_le _⟩) sub_auto ?_; rintro k xs H2 ⟨hwk2, hel2, hk2⟩; have hfl := fill_len (l := vals l n) (k := k) (by rw [vals_len]; exact hk2); rw [vals_len] at hfl; have hxl := hel2.len; rw [hfl] at hxl; have hw2 := hwk2.tab h; have hr2 := hwk2.hle; refine vc_sr ?_; refine vr 1 ?_; refine vco_k [0, 1, 5, 14, 15, 16] ?_; refine vc_seq ?_; refine vc_cond rfl (fun hb => ?_) (fun hb => ?_)
 ·
  have hkn : k < n := by simpa using hb
  obtain ⟨up, hup, hupe⟩ := hxp k _ (hL.p hkn); obtain ⟨um, hum, hume⟩ := hxm k _ (hL.mi hkn)
  cases hupe
  cases hume
  have hpw := hL.pw k hkn; have hmw := hL.mw k hkn; obtain ⟨n1, d1, b1, hn1, hx1⟩ := hxv _ _ (vals_get hpw); have hf1 := hf _ hpw; have hrp2 := hrp.le hr2; have hrm2 := hrm.le hr2; have hrv2 := (hrv.le hwk2.le).le (rem_le _ _)
  have hl2' : cell H2 ((⟨G.g, 0, none⟩ : Addr).add 2) = some (.slice Ap n cp) := by rw [← hpv]; exact hw2.cell 2 _ rfl
  refine vc_skip ?_; refine vc_keep [0, 1, 5, 14, 15] rfl ?_; refine vc_seq ?_; refine vc_block ?_; refine vc_sr ?_; refine vr 2 ?_; refine vco_k [0, 1, 5, 6, 14, 15] ?_; refine vc_sr ?_; refine vr 5 ?_; refine vco_hfld tbOk rfl rfl rfl ?_; refine vco_hload tbOk rfl rfl rfl (hl2') ?_; refine vr 1 ?_; refine vco_at tbOk rfl rfl rfl rfl rfl (hrp2) (by rw [Int.toNat_natCast]; exact hup) (by omega) (by omega) fun _ => ?_; refine vco_at_st (vs := [.int .i64 n1, .int .i64 d1, .pointer b1]) tbOk rfl rfl rfl rfl hrv2 rfl (by decide) (by rw [Int.toNat_natCast]; exact hx1) (by omega) (by omega) fun _ => ?_; obtain ⟨ti, hti, htz⟩ := sz90; refine vco_set (.inl rfl) tbOk rfl rfl rfl (by omega) (by omega) (hwk2.blk) rfl (by show 0 + n * 3 ≤ xs.length; omega) hti htz (fun _ => rfl) rfl rfl rfl fun _ => ?_; refine vco_k [0, 1, 5, 6, 14, 15] ?_; have hwk3 : Work G.gs H _ z (splice xs (k * 3) [.int .i64 n1, .int .i64 d1, .pointer b1]) (n * 3) 90 := hwk2.set (ent_set (k := k) (sz := 3))
  have hel3 : Els (Opt NumV (rem (ins H2 z { (⟨xs, n * 3, 90, true⟩ : Ent) with xs := splice xs (0 + k * 3) [.int .i64 n1, .int .i64 d1, .pointer b1] }) (z :: G.gs))) 3 (splice xs (k * 3) [.int .i64 n1, .int .i64 d1, .pointer b1]) ((fill (vals l n) k).set k (some (f (L.pF k)))) := by
   rw [rem_ins_in _ (List.mem_cons_self ..)]; exact els_opt_set hel2 (by rw [hfl]; exact hkn) (hn1.le hwk2.le)
  generalize hH3 : ins H2 z { (⟨xs, n * 3, 90, true⟩ : Ent) with xs := splice xs (0 + k * 3) [.int .i64 n1, .int .i64 d1, .pointer b1] } = H3 at hwk3 hel3
  have hH3' : ins H2 z { (⟨xs, n * 3, 90, true⟩ : Ent) with xs := splice xs (0 + ((k : Int)).toNat * 3) [.int .i64 n1, .int .i64 d1, .pointer b1] } = H3 := hH3; rw [show ∀ e : Ent, e = { (⟨xs, n * 3, 90, true⟩ : Ent) with xs := splice xs (0 + ((k : Int)).toNat * 3) [.int .i64 n1, .int .i64 d1, .pointer b1] } → ins H2 z e = H3 from fun e he => by rw [he]; exact hH3']
  rotate_left
  · rfl
  have hw3 := hwk3.tab h; have hrm3 := hrm.le hwk3.hle; have hrv3 := (hrv.le hwk3.le).le (rem_le _ _)
  have hl3 : cell H3 ((⟨G.g, 0, none⟩ : Addr).add 3) = some (.slice Am n cm) := by rw [← hmv]; exact hw3.cell 3 _ rfl
  refine vc_sr ?_; refine vr 2 ?_; refine vco_hfld tbOk rfl rfl rfl ?_; refine vco_hload tbOk rfl rfl rfl (hl3) ?_; refine vr 1 ?_; refine vco_at tbOk rfl rfl rfl rfl rfl (hrm3) (by rw [Int.toNat_natCast]; exact hum) (by omega) (by omega) fun _ => ?_; refine vr 1 ?_; refine vco_k [0, 1, 5, 6, 14, 15, 38] ?_; refine vc_cond rfl (fun hb => ?_) (fun hb => ?_)
  ·
   have hb : 0 ≤ L.mZ k := by simpa using hb
   obtain ⟨n2, d2, b2, hn2, hx2⟩ := hxv _ _ (vals_get (show (L.mZ k).toNat < L.w by omega)); have hf2 := hf (L.mZ k).toNat (by omega)
   have hx3 : ∀ (j : Nat) (u : Value), [.int .i64 n1, .int .i64 d1, .pointer b1][j]? = some u → (splice xs (k * 3) [.int .i64 n1, .int .i64 d1, .pointer b1])[k * 3 + j]? = some u := fun j u hu => by
    have hj := (List.getElem?_eq_some_iff.1 hu).1
    simp only [List.length_cons, List.length_nil] at hj
    rw [splice_get _ _ _ _ (by simp only [List.length_cons, List.length_nil]; omega), if_pos (by simp only [List.length_cons, List.length_nil]; omega), Nat.add_sub_cancel_left]; exact hu
   refine vc_draw .drawH [0, 1, 2, 3, 4, 5, 6, 7, 8, 9, 10, 11, 12, 13, 14, 15, 16, 17, 18] follows (by kernel_rfl) ?_; refine vr 4 ?_; refine vco_at_st (vs := [.int .i64 n1, .int .i64 d1, .pointer b1]) tbOk rfl rfl rfl rfl (rd_at hwk3.blk) rfl (by decide) (by rw [Int.toNat_natCast]; exact hx3) (by omega) (by omega) fun _ => ?_; refine vr 3 ?_; refine vco_hfld tbOk rfl rfl rfl ?_; refine vco_hload tbOk rfl rfl rfl (hl3) ?_; refine vr 1 ?_; refine vco_at tbOk rfl rfl rfl rfl rfl (hrm3) (by rw [Int.toNat_natCast]; exact hum) (by omega) (by omega) fun _ => ?_; refine vco_at_st (vs := [.int .i64 n2, .int .i64 d2, .pointer b2]) tbOk rfl rfl rfl rfl hrv3 rfl (by decide) hx2 (by omega) (by omega) fun _ => ?_; refine vco_callM rfl rfl (Fn.frM (hwk3.ne h.ne) (ssub_ok (N := N) (hn1.le hwk3.le) (hn2.le hwk3.le) hf1 hf2 (by omega))) (fun _ _ h => by first | exact h.le | exact h.1) ?_; rintro v4 H4 ⟨hk4, hl4, n4, d4, b4, rfl, hq4⟩; have hwk4 := hwk3.kept hk4
   have hxl4 : (splice xs (k * 3) [.int .i64 n1, .int .i64 d1, .pointer b1]).length = n * 3 := by rw [splice_length]; exact hxl
   obtain ⟨ti, hti, htz⟩ := sz90; refine vco_set (.inr rfl) tbOk rfl rfl rfl (by omega) (by omega) (hwk4.blk) rfl (by show 0 + n * 3 ≤ (splice xs (k * 3) [.int .i64 n1, .int .i64 d1, .pointer b1]).length; omega) hti htz (fun _ => rfl) rfl rfl rfl fun _ => ?_; refine vco_end ?_; refine vc_keep [0, 1, 5, 14, 15] rfl ?_; refine vc_region rfl ?_; refine vco_add rfl rfl ⟨by omega, by omega⟩ ?_; refine vr 1 ?_; refine vco_end ?_; exact ⟨k + 1, splice (splice xs (k * 3) [.int .i64 n1, .int .i64 d1, .pointer b1]) (k * 3) [.int .i64 n4, .int .i64 d4, .pointer b4], by omega, sub_auto, hwk4.set ent_set, by rw [rem_ins_in _ (List.mem_cons_self ..), ← fill_set (a := f (L.pF k) - f (L.mZ k).toNat) (by rw [vals_get hkn, hl]; unfold Lay.vec TL.mF; rw [if_pos hb]; rfl), ← set_two (fill (vals l n) k) k (some (f (L.pF k)))]; exact els_opt_set (hel3.mono fun vs a => Opt.up numUp _ _ vs a hk4.le) (by rw [List.length_set, hfl]; exact hkn) hq4, by omega⟩
  ·
   have hb : ¬ 0 ≤ L.mZ k := by simpa using hb
   refine vc_skip ?_; refine vc_keep [0, 1, 5, 14, 15] rfl ?_; refine vc_region rfl ?_; refine vco_add rfl rfl ⟨by omega, by omega⟩ ?_; refine vr 1 ?_; refine vco_end ?_; exact ⟨k + 1, splice xs (k * 3) [.int .i64 n1, .int .i64 d1, .pointer b1], by omega, sub_auto, hwk3, by rw [← fill_set (a := f (L.pF k)) (by rw [vals_get hkn, hl]; unfold Lay.vec TL.mF; rw [if_neg hb]; simp only [optv]; rw [show f (L.pF k) - 0 = f (L.pF k) by grind])]; exact hel3, by omega⟩
 ·
  have hb : n ≤ k := by simpa using hb
  obtain rfl : k = n := by omega
  have hkd := hwk2.done; refine vc_exit ?_; refine vc_keep [5] rfl ?_; refine vc_sr ?_; refine vr 1 ?_
  refine vco_call rfl rfl (Fn.frS (hkd.1.ne h.ne) (souts_ok (l := vals l k) ⟨some ⟨z, 0, none⟩, k, xs, by rw [vals_len], by rw [vals_len]; exact Nat.le_refl _, hwk2.rd, (els_vals hel2).mono fun vs a => numUp _ _ vs a hkd.2⟩ (fun q hq => by
  obtain ⟨j, hj, rfl⟩ := List.mem_map.1 hq; have hj := List.mem_range.1 hj; rw [hl]; have h1 := hf _ (hL.pw j hj); have h2 := hL.mw j hj
  unfold Lay.vec TL.mF
  split
  ·
   have h3 := hf (L.mZ j).toNat (by omega); have h4 := szQ_sub (f (L.pF j)) (f (L.mZ j).toNat)
   simp only [optv]; omega
  ·
   have h4 := szQ_sub (f (L.pF j)) 0; rw [sz_zero] at h4
   simp only [optv]; omega) (by rw [vals_len]; omega))) ?_
  rintro v9 H9 ⟨hk9, hl9, hs9⟩; refine vr 1 ?_; refine vco_k [4] ?_; refine vc_ret ⟨.inr rfl, _, .tmp rfl (.nil), ?_⟩; exact ⟨hkd.1.trans hk9, hwk2.hle.trans hl9, by rw [← hl]; exact hs9⟩
end Go.Eng
/- Walks over package simplex, tableau.go, part 6: point, ray, dual. -/
namespace Go.Eng
open Go.Proofs Num Lp
def ptk (T : Tab) (k j : Nat) : Rat := sumN k (fun i => if T.B i = j then T.A i T.n else 0)
def dirk (T : Tab) (s k j : Nat) : Rat := (if j = s then 1 else 0) - sumN k (fun i => if T.B i = j then T.A i s else 0)
theorem ptk_upd {T : Tab} (hW : T.WF) {k : Nat} (hk : k < T.m) (j : Nat) : ptk T (k + 1) j = upd (ptk T k) (T.B k) (T.A k T.n) j := by
  unfold ptk upd
  rw [sumN_succ]
  by_cases e : j = T.B k
  · rw [if_pos e, if_pos e.symm, sumN_eq0]
    · grind
    · intro i hi
      rw [if_neg (fun e' => by have := hW.inj (by omega) hk (e'.trans e); omega)]
  · rw [if_neg e, if_neg (fun e' => e e'.symm)]; grind
theorem ptk_all {T : Tab} {j : Nat} (hj : j < T.n) : ptk T T.m j = T.pt j := by
  unfold ptk Tab.pt
  rw [if_neg (by omega)]
theorem dirk_upd {T : Tab} (hW : T.WF) {s k : Nat} (hs : ∀ i, i < T.m → T.B i ≠ s) (hk : k < T.m) (j : Nat) : dirk T s (k + 1) j = upd (dirk T s k) (T.B k) (-(T.A k s)) j := by
  unfold dirk upd
  rw [sumN_succ]
  by_cases e : j = T.B k
  · rw [if_pos e, if_pos e.symm, sumN_eq0, if_neg (fun e' => hs k hk (by rw [← e, e']))]
    · grind
    · intro i hi
      rw [if_neg (fun e' => by have := hW.inj (by omega) hk (e'.trans e); omega)]
  · rw [if_neg e]
    have e2 : (if T.B k = j then T.A k s else 0) = 0 := if_neg (fun e' => e e'.symm)
    rw [e2]; grind
theorem point_ok {H : Heap} {G : TG} {L : TL} {T : Tab} {n m N : Nat} (h : TabV H G L T) (hW : T.WF) (hL : L.Ok n m) (hz : ∀ j, j < L.w → szQ (T.pt j) ≤ N) (hN : (N : Int) ≤ 274877906944) (hw : (L.w : Int) ≤ 1000000) (hn : (n : Int) ≤ 1000000) (hm : (T.m : Int) ≤ 1000000) :
  Fn Tryz.prog 59 #[.pointer (some ⟨G.g, 0, none⟩)] H (FrS CanP 3 G.gs H (vals (Lay.vec L.pF L.mF T.pt) n)) := by
 obtain ⟨Ab, cb, hbv, _⟩ := h.self.bv; refine fn_intro (args := [_]) Tryz.func59 rfl rfl Tryz.ntmps59 rfl rfl fun w0 => ?_; refine vc_keep [0] rfl ?_; refine vc_sr ?_; refine vr 1 ?_; refine vco_k [0] ?_; refine vc_sr ?_; refine vr 2 ?_; refine vco_hfld tbOk rfl rfl rfl ?_; refine vco_hload tbOk rfl rfl rfl (h.cell0) ?_; refine vco_call rfl rfl (zeros_fr h.ne (by omega)) ?_; rintro v1 H1 ⟨hl1, z, xs, rfl, hwk, hel⟩; have hw1 := hwk.tab h; refine vr 1 ?_; refine vco_k [0, 3] ?_; refine vc_seq ?_; refine vc_sr ?_; refine vr 2 ?_; refine vco_hfld tbOk rfl rfl rfl ?_; refine vco_hload tbOk rfl rfl rfl (show cell H1 _ = some (.slice Ab T.m cb) from by rw [← hbv]; exact hw1.cell 8 _ rfl) ?_; refine vr 2 ?_; refine vco_k [0, 3, 14, 15, 16] ?_; refine vc_block ?_; refine vc_loop2 (fun (k : Nat) (xs : List Value) => T.m - k) (fun (k : Nat) (xs : List Value) => put (put (put (put (put (emp) 0 (.val (.pointer (some ⟨G.g, 0, none⟩)))) 3 (.val (.slice (some ⟨z, 0, none⟩) L.w L.w))) 14 (.val (.slice Ab T.m cb))) 15 (.val (.int .i64 (T.m : Int)))) 16 (.val (.int .i64 (k : Int)))) (fun (k : Nat) (xs : List Value) H' => Work G.gs H H' z xs (L.w * 3) 90 ∧ Els (NumV (rem H' (z :: G.gs))) 3 xs (vals (ptk T k) L.w) ∧ k ≤ T.m) 0 xs (⟨hwk, by rw [vals_congr (f := ptk T 0) (g := fun _ => 0) (fun j _ => rfl)]; exact hel _, Nat.zero_le _⟩) sub_auto ?_; rintro k xs H2 ⟨hwk2, hel2, hk2⟩; have hw2 := hwk2.tab h; have hxl := hel2.len; rw [vals_len] at hxl
 refine vc_sr ?_; refine vr 1 ?_; refine vco_k [0, 3, 14, 15, 16, 17] ?_; refine vc_seq ?_; refine vc_cond rfl (fun hb => ?_) (fun hb => ?_)
 ·
  have hkm : k < T.m := by simpa using hb
  obtain ⟨xs3, hrd3, hx3⟩ := hw2.rows; obtain ⟨pk, hpk, hbk⟩ := hx3 k hkm; have hBw := hW.lt k hkm; rw [h.n] at hBw; obtain ⟨A3, c3, hbv3, hrb3⟩ := hw2.bv; rw [hbv] at hbv3
  obtain ⟨rfl, -, rfl⟩ : Ab = A3 ∧ T.m = T.m ∧ cb = c3 := by simpa using hbv3
  have hl6 := hw2.cell 6 _ rfl; obtain ⟨xw, n1, d1, b1, hrw, hn1, hxw⟩ := hbk.rd (vals_get (show L.w < L.w + 1 by omega)); refine vc_skip ?_; refine vc_keep [0, 3, 14, 15, 16] rfl ?_; refine vc_seq ?_; refine vc_block ?_; refine vc_sr ?_; refine vr 1 ?_; refine vco_at tbOk rfl rfl rfl rfl rfl (hrb3) (by rw [Int.toNat_natCast]; exact basisC_get hkm) (by omega) (by omega) fun _ => ?_; refine vr 2 ?_; refine vco_k [0, 3, 4, 5, 14, 15, 16] ?_; refine vc_draw .drawH [0, 1, 2, 3, 4, 5, 6, 7, 8, 9, 10, 11, 12, 13, 14, 15, 16] follows (by kernel_rfl) ?_; refine vr 4 ?_; refine vco_hfld tbOk rfl rfl rfl ?_; refine vco_hload tbOk rfl rfl rfl (hl6) ?_; refine vr 1 ?_; refine vco_at tbOk rfl rfl rfl rfl rfl (hrd3) (by rw [Int.toNat_natCast]; exact hpk) (by omega) (by omega) fun _ => ?_; refine vr 2 ?_; refine vco_hfld tbOk rfl rfl rfl ?_; refine vco_hload tbOk rfl rfl rfl (by have := hw2.cell 0 _ rfl; rwa [addr0] at this) ?_; refine vco_at_st (vs := [.int .i64 n1, .int .i64 d1, .pointer b1]) tbOk rfl rfl rfl rfl hrw rfl (by decide) (by rw [Int.toNat_natCast]; exact hxw) (by omega) (by omega) fun _ => ?_; obtain ⟨ti, hti, htz⟩ := sz90; refine vco_set (.inr rfl) tbOk rfl rfl rfl (by omega) (by omega) (hwk2.blk) rfl (by show 0 + L.w * 3 ≤ xs.length; omega) hti htz (fun _ => rfl) rfl rfl rfl fun _ => ?_; refine vco_end ?_; refine vc_keep [0, 3, 14, 15, 16] rfl ?_; refine vc_region rfl ?_; refine vco_add rfl rfl ⟨by omega, by omega⟩ ?_
  refine vr 1 ?_; refine vco_end ?_; exact ⟨k + 1, splice xs (T.B k * 3) [.int .i64 n1, .int .i64 d1, .pointer b1], by omega, sub_auto, hwk2.set (by rw [Int.toNat_natCast]; exact ent_set), by rw [rem_ins_in _ (List.mem_cons_self ..), vals_congr (g := upd (ptk T k) (T.B k) (T.A k T.n)) (fun j _ => ptk_upd hW hkm j), h.n]; exact els_upd hel2 hBw hn1, by omega⟩
 ·
  have hb : T.m ≤ k := by simpa using hb
  obtain rfl : k = T.m := by omega
  have hkd := hwk2.done; rw [vals_congr (g := T.pt) (fun j hj => ptk_all (by rw [h.n]; exact hj))] at hel2; refine vc_exit ?_; refine vc_keep [0, 3] rfl ?_; refine vc_sr ?_; refine vr 2 ?_; refine vco_call rfl rfl (combine_ok (h.kept hkd.1) hL (v := .slice (some ⟨z, 0, none⟩) L.w L.w) (f := T.pt) ⟨some ⟨z, 0, none⟩, L.w, xs, by rw [vals_len], by rw [vals_len]; exact Nat.le_refl _, hwk2.rd, hel2.mono fun vs a => numUp _ _ vs a hkd.2⟩ hz hN hw hn) ?_; rintro v9 H9 ⟨hk9, hl9, hs9⟩; refine vr 1 ?_; refine vco_k [2] ?_; refine vc_ret ⟨.inr rfl, _, .tmp rfl (.nil), ?_⟩; exact ⟨hkd.1.trans hk9, hwk2.hle.trans hl9, hs9⟩
theorem ray_ok {H : Heap} {G : TG} {L : TL} {T : Tab} {n m N s : Nat} (h : TabV H G L T) (hW : T.WF) (hL : L.Ok n m) (hs : s < L.w) (hns : ∀ i, i < T.m → T.B i ≠ s) (hsz : ∀ i, i < T.m → szQ (T.A i s) ≤ N) (hz : ∀ j, j < L.w → szQ (T.dir s j) ≤ N) (hN : (N : Int) ≤ 274877906944) (hw : (L.w : Int) ≤ 1000000) (hn : (n : Int) ≤ 1000000) (hm : (T.m : Int) ≤ 1000000) :
  Fn Tryz.prog 60 #[.pointer (some ⟨G.g, 0, none⟩), .int .i64 (s : Int)] H (FrS CanP 3 G.gs H (vals (Lay.vec L.pF L.mF (T.dir s)) n)) := by
 obtain ⟨Ab, cb, hbv, _⟩ := h.self.bv; refine fn_intro (args := [_, _]) Tryz.func60 rfl rfl Tryz.ntmps60 rfl rfl fun w0 => ?_; refine vc_keep [0, 1] rfl ?_; refine vc_sr ?_; refine vr 1 ?_; refine vco_k [0, 1] ?_; refine vc_sr ?_; refine vr 2 ?_; refine vco_hfld tbOk rfl rfl rfl ?_; refine vco_hload tbOk rfl rfl rfl (h.cell0) ?_; refine vco_call rfl rfl (zeros_fr h.ne (by omega)) ?_; rintro v1 H1 ⟨hl1, z, xs, rfl, hwk, hel⟩; have hxl0 := (hel H).len; rw [vals_len] at hxl0; refine vr 1 ?_; refine vco_k [0, 1, 5] ?_; refine vc_sr ?_; refine vr 2 ?_; refine vco_call rfl rfl (swhole_ok) ?_; rintro v3 H3 ⟨e3, rfl⟩; rw [e3]; obtain ⟨ti, hti, htz⟩ := sz90; refine vco_set (.inl rfl) tbOk rfl rfl rfl (by omega) (by omega) (hwk.blk) rfl (by show 0 + L.w * 3 ≤ xs.length; omega) hti htz (fun _ => rfl) rfl rfl rfl fun _ => ?_; refine vco_k [0, 1, 5] ?_; have hwk1 : Work G.gs H (ins H1 z { (⟨xs, L.w * 3, 90, true⟩ : Ent) with xs := splice xs (0 + ((s : Int)).toNat * 3) [.int .i64 1, .int .i64 1, .pointer none] }) z (splice xs (s * 3) [.int .i64 1, .int .i64 1, .pointer none]) (L.w * 3) 90 := hwk.set (by rw [Int.toNat_natCast]; exact ent_set); have hw1 := hwk1.tab h; refine vc_seq ?_; refine vc_sr ?_; refine vr 2 ?_; refine vco_hfld tbOk rfl rfl rfl ?_; refine vco_hload tbOk rfl rfl rfl (show cell _ _ = some (.slice Ab T.m cb) from by rw [← hbv]; exact hw1.cell 8 _ rfl) ?_; refine vr 2 ?_; refine vco_k [0, 1, 5, 20, 21, 22] ?_
 refine vc_block ?_; refine vc_loop2 (fun (k : Nat) (xs : List Value) => T.m - k) (fun (k : Nat) (xs : List Value) => put (put (put (put (put (put (emp) 0 (.val (.pointer (some ⟨G.g, 0, none⟩)))) 1 (.val (.int .i64 (s : Int)))) 5 (.val (.slice (some ⟨z, 0, none⟩) L.w L.w))) 20 (.val (.slice Ab T.m cb))) 21 (.val (.int .i64 (T.m : Int)))) 22 (.val (.int .i64 (k : Int)))) (fun (k : Nat) (xs : List Value) H' => Work G.gs H H' z xs (L.w * 3) 90 ∧ Els (NumV (rem H' (z :: G.gs))) 3 xs (vals (dirk T s k) L.w) ∧ k ≤ T.m) 0 (splice xs (s * 3) [.int .i64 1, .int .i64 1, .pointer none]) (⟨hwk1, by rw [vals_congr (g := upd (fun _ => 0) s 1) (fun j _ => by unfold dirk upd; rw [sumN_zero]; split <;> grind)]; exact els_upd (hel _) hs (numV_int _ (n := 1) (by decide) (by decide)), Nat.zero_le _⟩) sub_auto ?_; rintro k xs H2 ⟨hwk2, hel2, hk2⟩; have hw2 := hwk2.tab h; have hxl := hel2.len; rw [vals_len] at hxl; refine vc_sr ?_; refine vr 1 ?_; refine vco_k [0, 1, 5, 20, 21, 22, 23] ?_; refine vc_seq ?_; refine vc_cond rfl (fun hb => ?_) (fun hb => ?_)
 ·
  have hkm : k < T.m := by simpa using hb
  obtain ⟨xs3, hrd3, hx3⟩ := hw2.rows; obtain ⟨pk, hpk, hbk⟩ := hx3 k hkm; have hBw := hW.lt k hkm; rw [h.n] at hBw; obtain ⟨A3, c3, hbv3, hrb3⟩ := hw2.bv; rw [hbv] at hbv3
  obtain ⟨rfl, -, rfl⟩ : Ab = A3 ∧ T.m = T.m ∧ cb = c3 := by simpa using hbv3
  have hl6 := hw2.cell 6 _ rfl; obtain ⟨xw, n1, d1, b1, hrw, hn1, hxw⟩ := hbk.rd (vals_get (show s < L.w + 1 by omega)); have hsk := hsz k hkm; refine vc_skip ?_; refine vc_keep [0, 1, 5, 20, 21, 22] rfl ?_; refine vc_seq ?_; refine vc_block ?_; refine vc_sr ?_; refine vr 1 ?_; refine vco_at tbOk rfl rfl rfl rfl rfl (hrb3) (by rw [Int.toNat_natCast]; exact basisC_get hkm) (by omega) (by omega) fun _ => ?_; refine vr 2 ?_; refine vco_k [0, 1, 5, 6, 7, 20, 21, 22] ?_; refine vc_region rfl ?_; refine vr 4 ?_; refine vco_hfld tbOk rfl rfl rfl ?_; refine vco_hload tbOk rfl rfl rfl (hl6) ?_; refine vr 1 ?_; refine vco_at tbOk rfl rfl rfl rfl rfl (hrd3) (by rw [Int.toNat_natCast]; exact hpk) (by omega) (by omega) fun _ => ?_; refine vr 1 ?_; refine vco_at_st (vs := [.int .i64 n1, .int .i64 d1, .pointer b1]) tbOk rfl rfl rfl rfl hrw rfl (by decide) (by rw [Int.toNat_natCast]; exact hxw) (by omega) (by omega) fun _ => ?_; refine vco_call rfl rfl (Fn.frM (hwk2.ne h.ne) (sneg_ok hn1 (by omega))) ?_; rintro v4 H4 ⟨hk4, hl4, n4, d4, b4, rfl, hq4⟩; have hwk4 := hwk2.kept hk4; obtain ⟨ti, hti, htz⟩ := sz90; refine vco_set (.inl rfl) tbOk rfl rfl rfl (by omega) (by omega) (hwk4.blk) rfl (by show 0 + L.w * 3 ≤ xs.length; omega) hti htz (fun _ => rfl) rfl rfl rfl fun _ => ?_; refine vco_end ?_; refine vc_keep [0, 1, 5, 20, 21, 22] rfl ?_; refine vc_region rfl ?_; refine vco_add rfl rfl ⟨by omega, by omega⟩ ?_; refine vr 1 ?_
  refine vco_end ?_; exact ⟨k + 1, splice xs (T.B k * 3) [.int .i64 n4, .int .i64 d4, .pointer b4], by omega, sub_auto, hwk4.set (by rw [Int.toNat_natCast]; exact ent_set), by rw [rem_ins_in _ (List.mem_cons_self ..), vals_congr (g := upd (dirk T s k) (T.B k) (-(T.A k s))) (fun j _ => dirk_upd hW hns hkm j)]; exact els_upd (hel2.mono fun vs a => numUp _ _ vs a hk4.le) hBw hq4, by omega⟩
 ·
  have hb : T.m ≤ k := by simpa using hb
  obtain rfl : k = T.m := by omega
  have hkd := hwk2.done; rw [vals_congr (f := dirk T s T.m) (g := T.dir s) (fun j hj => rfl)] at hel2; refine vc_exit ?_; refine vc_keep [0, 5] rfl ?_; refine vc_sr ?_; refine vr 2 ?_; refine vco_call rfl rfl (combine_ok (h.kept hkd.1) hL (v := .slice (some ⟨z, 0, none⟩) L.w L.w) (f := T.dir s) ⟨some ⟨z, 0, none⟩, L.w, xs, by rw [vals_len], by rw [vals_len]; exact Nat.le_refl _, hwk2.rd, hel2.mono fun vs a => numUp _ _ vs a hkd.2⟩ hz hN hw hn) ?_; rintro v9 H9 ⟨hk9, hl9, hs9⟩; refine vr 1 ?_; refine vco_k [4] ?_; refine vc_ret ⟨.inr rfl, _, .tmp rfl (.nil), ?_⟩; exact ⟨hkd.1.trans hk9, hwk2.hle.trans hl9, hs9⟩
theorem dual_ok {H : Heap} {G : TG} {L : TL} {T : Tab} {n m N : Nat} {v : Value} {f : Nat → Rat} (h : TabV H G L T) (hc : CostV H G L T) (hL : L.Ok n m) (hv : SlV NumV 3 (rem H G.gs) v (vals f L.w)) (hf : ∀ j, j < L.w → szQ (f j) ≤ N) (hcz : ∀ j, j < L.w → szQ (T.c j) ≤ N) (hN : (N : Int) ≤ 274877906944) (hw : (L.w : Int) ≤ 1000000) (hm : (m : Int) ≤ 1000000) :
  Fn Tryz.prog 54 #[.pointer (some ⟨G.g, 0, none⟩), v] H (FrS CanP 3 G.gs H (vals (fun i => L.sF i * (f (L.uF i) - T.c (L.uF i))) m)) := by
 obtain ⟨Av, cv, xv, rfl, hrv, hxv⟩ := hv.num
 rw [vals_len]
 have hw0 := h.self
 obtain ⟨Au, cu, xu, huv, hru, hxu⟩ := hw0.units.one
 obtain ⟨As, cs, xs5, hsv, hrs, hxs⟩ := hw0.signs.num
 rw [hL.ulen] at huv
 rw [hL.slen] at hsv
 obtain ⟨l, hl⟩ : ∃ l, l = (fun i => L.sF i * (f (L.uF i) - T.c (L.uF i))) := ⟨_, rfl⟩
 have hls : ∀ i, i < m → szQ (l i) ≤ 2 * N + 2 := fun i hi => by
  have h1 := hf _ (hL.uw i hi)
  have h2 := hcz _ (hL.uw i hi)
  have h3 := hL.s1 i hi
  have h4 := szQ_sub (f (L.uF i)) (T.c (L.uF i))
  have h5 := szQ_mul (L.sF i) (f (L.uF i) - T.c (L.uF i))
  rw [hl]; show szQ (L.sF i * (f (L.uF i) - T.c (L.uF i))) ≤ _
  omega
 have hl4 : cell H ((⟨G.g, 0, none⟩ : Addr).add 4) = some (.slice Au m cu) := by rw [← huv]; exact h.cell rfl
 obtain ⟨gc, cc, hcb, hcv, hbc⟩ := id hc
 have hgc : gc ∈ G.gs := TG.cb_mem (by rw [hcb]; exact List.mem_singleton.2 rfl); refine fn_intro (args := [_, _]) Tryz.func54 rfl rfl Tryz.ntmps54 rfl rfl fun w0 => ?_; refine vc_keep [0, 1] rfl ?_; refine vc_sr ?_; refine vr 1 ?_; refine vco_k [0, 1] ?_; refine vc_sr ?_; refine vr 2 ?_; refine vco_hfld tbOk rfl rfl rfl ?_; refine vco_hload tbOk rfl rfl rfl (hl4) ?_; refine vr 1 ?_; refine vco_make Tryz.underlying85 el90 rfl rfl rfl (by omega) (by omega) (by omega) (by omega) ?_; intro z hz0; rw [show ((m : Int)).toNat = m from by omega]; have hwk : Work G.gs H _ z (madeL [.int .i64 0, .int .i64 0, .pointer none] (m * 3)) (m * 3) 90 := Work.new h.ne hz0
 have hel : Els (Opt NumV (rem (ins H z ⟨madeL [.int .i64 0, .int .i64 0, .pointer none] (m * 3), m * 3, 90, true⟩) (z :: G.gs))) 3 (madeL [.int .i64 0, .int .i64 0, .pointer none] (m * 3)) (fill (vals l m) 0) := by have := opt_made (P := NumV) (H := rem (ins H z ⟨madeL [.int .i64 0, .int .i64 0, .pointer none] (m * 3), m * 3, 90, true⟩) (z :: G.gs)) (zs := [.int .i64 0, .int .i64 0, .pointer none]) (sz := 3) (by rfl) (vals l m); rwa [vals_len] at this
 have hw1 := hwk.tab h; refine vr 1 ?_; refine vco_k [0, 1, 5] ?_; refine vc_seq ?_; refine vc_sr ?_; refine vr 2 ?_; refine vco_hfld tbOk rfl rfl rfl ?_; refine vco_hload tbOk rfl rfl rfl (show cell _ _ = some (.slice Au m cu) from by rw [← huv]; exact hw1.cell 4 _ rfl) ?_; refine vr 2 ?_; refine vco_k [0, 1, 5, 17, 18, 19] ?_; refine vc_block ?_; refine vc_loop2 (fun (k : Nat) (xs : List Value) => m - k) (fun (k : Nat) (xs : List Value) => put (put (put (put (put (put (emp) 0 (.val (.pointer (some ⟨G.g, 0, none⟩)))) 1 (.val (.slice Av L.w cv))) 5 (.val (.slice (some ⟨z, 0, none⟩) m m))) 17 (.val (.slice Au m cu))) 18 (.val (.int .i64 (m : Int)))) 19 (.val (.int .i64 (k : Int)))) (fun (k : Nat) (xs : List Value) H' => Work G.gs H H' z xs (m * 3) 90 ∧ Els (Opt NumV (rem H' (z :: G.gs))) 3 xs (fill (vals l m) k) ∧ k ≤ m) 0 _ (⟨hwk, hel, Nat.zero_le _⟩) sub_auto ?_; rintro k xs H2 ⟨hwk2, hel2, hk2⟩; have hfl := fill_len (l := vals l m) (k := k) (by rw [vals_len]; exact hk2); rw [vals_len] at hfl; have hxl := hel2.len; rw [hfl] at hxl; have hw2 := hwk2.tab h; have hr2 := hwk2.hle; refine vc_sr ?_; refine vr 1 ?_; refine vco_k [0, 1, 5, 17, 18, 19, 20] ?_; refine vc_seq ?_; refine vc_cond rfl (fun hb => ?_) (fun hb => ?_)
 ·
  have hkn : k < m := by simpa using hb
  obtain ⟨uu, huu, huue⟩ := hxu k _ (hL.u hkn)
  cases huue
  have huw := hL.uw k hkn; obtain ⟨n1, d1, b1, hn1, hx1⟩ := hxv _ _ (vals_get huw); obtain ⟨n2, d2, b2, hn2, hx2⟩ := hxs k _ (hL.s hkn); obtain ⟨xc, n3, d3, b3, hrc, hn3, hx3⟩ := (hbc.le hwk2.le (hwk2.same gc hgc)).rd (vals_get (show L.uF k < L.w + 1 by omega)); have hf1 := hf _ huw; have hf3 := hcz _ huw; have hf2 := hL.s1 k hkn; have hrv2 := (hrv.le hwk2.le).le (rem_le _ _); have hrs2 := (hrs.le hwk2.le).le (rem_le _ _); have hru2 := hru.le hr2
  have hl5 : cell H2 ((⟨G.g, 0, none⟩ : Addr).add 5) = some (.slice As m cs) := by rw [← hsv]; exact hw2.cell 5 _ rfl
  have hl7 : cell H2 ((⟨G.g, 0, none⟩ : Addr).add 7) = some (.slice (some ⟨gc, 0, none⟩) (L.w + 1) cc) := by rw [← hcv]; exact hw2.cell 7 _ rfl
  refine vc_skip ?_; refine vc_keep [0, 1, 5, 17, 18, 19] rfl ?_; refine vc_seq ?_; refine vc_block ?_; refine vc_sr ?_; refine vr 1 ?_; refine vco_at tbOk rfl rfl rfl rfl rfl (hru2) (by rw [Int.toNat_natCast]; exact huu) (by omega) (by omega) fun _ => ?_; refine vr 2 ?_; refine vco_k [0, 1, 5, 6, 7, 17, 18, 19] ?_; refine vc_draw .drawH [0, 1, 2, 3, 4, 5, 6, 7, 8, 9, 10, 11, 12, 13, 14, 15, 16, 17, 18, 19, 20, 21, 22, 23] follows (by kernel_rfl) ?_; refine vr 4 ?_; refine vco_hfld tbOk rfl rfl rfl ?_; refine vco_hload tbOk rfl rfl rfl (hl5) ?_; refine vr 1 ?_; refine vco_at_st (vs := [.int .i64 n2, .int .i64 d2, .pointer b2]) tbOk rfl rfl rfl rfl hrs2 rfl (by decide) (by rw [Int.toNat_natCast]; exact hx2) (by omega) (by omega) fun _ => ?_; refine vr 2 ?_; refine vco_at_st (vs := [.int .i64 n1, .int .i64 d1, .pointer b1]) tbOk rfl rfl rfl rfl hrv2 rfl (by decide) (by rw [Int.toNat_natCast]; exact hx1) (by omega) (by omega) fun _ => ?_; refine vr 2 ?_; refine vco_hfld tbOk rfl rfl rfl ?_; refine vco_hload tbOk rfl rfl rfl (hl7) ?_; refine vr 1 ?_; refine vco_at_st (vs := [.int .i64 n3, .int .i64 d3, .pointer b3]) tbOk rfl rfl rfl rfl hrc rfl (by decide) (by rw [Int.toNat_natCast]; exact hx3) (by omega) (by omega) fun _ => ?_; refine vco_callM rfl rfl (Fn.frM (hwk2.ne h.ne) (ssub_ok (N := N) (hn1.le hwk2.le) hn3 hf1 hf3 (by omega))) (fun _ _ h => by first | exact h.le | exact h.1) ?_
  rintro v4 H4 ⟨hk4, hl4x, n4, d4, b4, rfl, hq4⟩; have hwk4 := hwk2.kept hk4; have hs4 := szQ_sub (f (L.uF k)) (T.c (L.uF k)); refine vco_callM rfl rfl (Fn.frM (hwk4.ne h.ne) (smul_ok (N := 2 * N + 2) (hn2.le hwk4.le) hq4 (by omega) (by omega) (by omega))) (fun _ _ h => by first | exact h.le | exact h.1) ?_; rintro v5 H5 ⟨hk5, hl5x, n5, d5, b5, rfl, hq5⟩; have hwk5 := hwk4.kept hk5; obtain ⟨ti, hti, htz⟩ := sz90; refine vco_set (.inr rfl) tbOk rfl rfl rfl (by omega) (by omega) (hwk5.blk) rfl (by show 0 + m * 3 ≤ xs.length; omega) hti htz (fun _ => rfl) rfl rfl rfl fun _ => ?_; refine vco_end ?_; refine vc_keep [0, 1, 5, 17, 18, 19] rfl ?_; refine vc_region rfl ?_; refine vco_add rfl rfl ⟨by omega, by omega⟩ ?_; refine vr 1 ?_; refine vco_end ?_; exact ⟨k + 1, splice xs (k * 3) [.int .i64 n5, .int .i64 d5, .pointer b5], by omega, sub_auto, hwk5.set ent_set, by rw [rem_ins_in _ (List.mem_cons_self ..), ← fill_set (a := L.sF k * (f (L.uF k) - T.c (L.uF k))) (by rw [vals_get hkn, hl])]; exact els_opt_set (hel2.mono fun vs a => Opt.up numUp _ _ vs a (hk4.le.trans hk5.le)) (by rw [hfl]; exact hkn) hq5, by omega⟩
 ·
  have hb : m ≤ k := by simpa using hb
  obtain rfl : k = m := by omega
  have hkd := hwk2.done; refine vc_exit ?_; refine vc_keep [5] rfl ?_; refine vc_sr ?_; refine vr 1 ?_
  refine vco_call rfl rfl (Fn.frS (hkd.1.ne h.ne) (souts_ok (l := vals l k) ⟨some ⟨z, 0, none⟩, k, xs, by rw [vals_len], by rw [vals_len]; exact Nat.le_refl _, hwk2.rd, (els_vals hel2).mono fun vs a => numUp _ _ vs a hkd.2⟩ (fun q hq => by
  obtain ⟨j, hj, rfl⟩ := List.mem_map.1 hq; have := hls j (List.mem_range.1 hj)
  omega) (by rw [vals_len]; omega))) ?_
  rintro v9 H9 ⟨hk9, hl9, hs9⟩; refine vr 1 ?_; refine vco_k [4] ?_; refine vc_ret ⟨.inr rfl, _, .tmp rfl (.nil), ?_⟩; exact ⟨hkd.1.trans hk9, hwk2.hle.trans hl9, by rw [← hl]; exact hs9⟩
end Go.Eng
/- Walks over package simplex, tableau.go, part 7: price. -/
namespace Go.Eng
open Go.Proofs Num Lp
/-- The costs with the first k rows of the basis taken off. -/
def prc (T : Tab) (f : Nat → Rat) (k j : Nat) : Rat := (if j = T.n then 0 else f j) - sumN k (fun i => f (T.B i) * T.A i j)
theorem prc_succ (T : Tab) (f : Nat → Rat) (k j : Nat) : prc T f (k + 1) j = prc T f k j - f (T.B k) * T.A k j := by
  unfold prc; rw [sumN_succ]; grind
theorem vals_snoc (f : Nat → Rat) (n : Nat) : vals f (n + 1) = vals f n ++ [f n] := by
  unfold vals; rw [List.range_succ, List.map_append]; rfl
theorem vals_ext0 (f : Nat → Rat) (n : Nat) : vals f n ++ [0] = vals (fun j => if j = n then 0 else f j) (n + 1) := by
  rw [vals_snoc, vals_congr (f := fun j => if j = n then 0 else f j) (g := f) (fun j hj => by show (if j = n then 0 else f j) = f j; rw [if_neg (by omega)]), if_pos rfl]
theorem els_cells {α : Type} {P : List Value → α → Prop} {sz : Nat} {xs : List Value} {l : List α} (h : Els P sz xs l) (hp : 0 < sz ∧ ∀ vs a, P vs a → ∀ u, u ∈ vs → u.oneCell' = true) : ∀ u, u ∈ xs → u.oneCell' = true := fun u hu => by
  obtain ⟨i, hi⟩ := List.getElem?_of_mem hu
  have hlt := (List.getElem?_eq_some_iff.1 hi).1
  rw [h.len] at hlt
  have he : i / sz < l.length := Nat.div_lt_of_lt_mul (by rw [Nat.mul_comm]; exact hlt)
  have hq := h.at_ (i / sz) _ (List.getElem?_eq_getElem he)
  refine hp.2 _ _ hq u ?_
  have : (seg xs (i / sz) sz)[i % sz]? = some u := by
    unfold seg
    rw [List.getElem?_take, if_pos (Nat.mod_lt _ hp.1), List.getElem?_drop, Nat.div_add_mod']; exact hi
  exact List.mem_of_getElem? this
theorem numV_one {K : Heap} : 0 < 3 ∧ ∀ vs a, NumV K vs a → ∀ u, u ∈ vs → u.oneCell' = true := ⟨by decide, fun vs a h u hu => by
  obtain ⟨n, d, b, rfl⟩ := h.cells
  simp only [List.mem_cons, List.not_mem_nil, or_false] at hu
  rcases hu with rfl | rfl | rfl <;> rfl⟩
def TG.withC (G : TG) (v : Value) (gc : Nat) : TG := { G with cv := v, cb := [gc] }
/-- New costs. -/
theorem TabV.newC {H : Heap} {G : TG} {L : TL} {T : Tab} (h : TabV H G L T) {H3 : Heap} {v : Value} {gc : Nat} {e : Ent} (hgc : H gc = none) (hle : Heap.le (rem H G.gs) (rem (ins H3 G.g e) (G.withC v gc).gs)) (hs : ∀ q, q ∈ G.gs → H3 q = H q) (h3 : H3 gc ≠ none) (he : e = ⟨(G.withC v gc).cells L.w L.u T.m, 9, 97, true⟩) :
    TabV (ins H3 G.g e) (G.withC v gc) L T := by
  have hne : ∀ q, q ∈ G.gs → q ≠ gc := fun q hq e => h.ne q hq (by rw [e]; exact hgc)
  have hgg : G.g ≠ gc := hne _ G.g_mem
  have hsame : ∀ q, q ∈ G.gs → q ≠ G.g → ins H3 G.g e q = H q := fun q hq hn => by rw [ins_other _ _ hn]; exact hs q hq
  refine ⟨h.n, h.uw, by show ins H3 G.g e G.g = _; rw [ins_same, he], ?_, h.rlen, ?_, fun i p hp => ?_, ?_, h.plus.le natUp hle, h.minus.le intUp hle, h.units.le natUp hle, h.signs.le numUp hle, fun q hq => ?_⟩
  · have hnd := h.nd
    unfold TG.gs at hnd ⊢
    show (G.g :: ([gc] ++ (G.bb ++ G.rg.map (·.1)))).Nodup
    rw [List.nodup_cons, List.nodup_append] at hnd
    have hin : ∀ q, q ∈ G.bb ++ G.rg.map (·.1) → q ∈ G.gs := fun q hq => List.mem_cons_of_mem _ (List.mem_append_right _ hq)
    rw [List.nodup_cons, List.nodup_append]
    refine ⟨fun hm => ?_, (by simp), hnd.2.2.1, fun a ha b hb => ?_⟩
    · rcases List.mem_append.1 hm with hm | hm
      · exact hgg (List.mem_singleton.1 hm)
      · exact hnd.1 (List.mem_append_right _ hm)
    · rw [List.mem_singleton] at ha
      rw [ha]; exact fun e => hne b (hin b hb) e.symm
  · obtain ⟨xs, h1, h2⟩ := h.rows
    exact ⟨xs, h1.le hle, h2⟩
  · have hp' : G.rg[i]? = some p := hp
    exact (h.row i p hp').le hle (hsame _ (TG.rg_mem hp') (fun e => TG.nd_g h.nd (.inr (.inr ⟨i, p, hp', rfl⟩)) e.symm))
  · rcases h.basis with h1 | ⟨gb, cb, sz, h1, h2, h4⟩
    · exact .inl h1
    · have hm : gb ∈ G.bb := by rw [h1]; exact List.mem_singleton.2 rfl
      exact .inr ⟨gb, cb, sz, h1, h2, by rw [hsame _ (TG.bb_mem hm) (fun e => TG.nd_g h.nd (.inr (.inl hm)) e.symm)]; exact h4⟩
  · have : q = gc := List.mem_singleton.1 hq
    rw [this, ins_other _ _ (Ne.symm hgg)]; exact h3
theorem TG.withC_gs {G : TG} {v : Value} {gc q : Nat} (h : q ∈ (G.withC v gc).gs) : q = gc ∨ q ∈ G.gs := by
  unfold TG.gs at h
  rcases List.mem_cons.1 h with h | h
  · exact .inr (by rw [h]; exact G.g_mem)
  · rcases List.mem_append.1 h with h | h
    · exact .inl (List.mem_singleton.1 h)
    · exact .inr (List.mem_cons_of_mem _ (List.mem_append_right _ h))
theorem rem_withC {H H3 : Heap} {G : TG} {v : Value} {gc : Nat} {e : Ent} (hgc : H gc = none) (hle : Heap.le (rem H G.gs) (rem H3 G.gs)) : Heap.le (rem H G.gs) (rem (ins H3 G.g e) (G.withC v gc).gs) := fun q en hq => by
  have hm : ¬ q ∈ G.gs := fun hm => by rw [rem_in hm] at hq; cases hq
  have hqc : q ≠ gc := fun e => by rw [rem_out hm, e, hgc] at hq; cases hq
  obtain ⟨e', h1, h2⟩ := hle q en hq
  refine ⟨e', ?_, h2⟩
  rw [rem_out (fun h => by rcases TG.withC_gs h with h | h; exact hqc h; exact hm h), ins_other _ _ (fun e => hm (by rw [e]; exact G.g_mem))]
  rwa [rem_out hm] at h1
theorem price_ok {H : Heap} {G : TG} {L : TL} {T : Tab} {N : Nat} {v : Value} {f : Nat → Rat} (h : TabV H G L T) (hv : SlV NumV 3 (rem H G.gs) v (vals f L.w)) (hB : ∀ i, i < T.m → T.B i < L.w) (hN : (N : Int) ≤ 549755813888) (hw : (L.w : Int) ≤ 1000000) (hm : (T.m : Int) ≤ 1000000)
  (hf : ∀ j, j < L.w → szQ (f j) ≤ N) (hA : ∀ i, i < T.m → ∀ j, j ≤ L.w → szQ (T.A i j) ≤ N) (hp : ∀ k, k ≤ T.m → ∀ j, j ≤ L.w → szQ (prc T f k j) ≤ N) :
  Fn Tryz.prog 49 #[.pointer (some ⟨G.g, 0, none⟩), v] H (fun _ H' => ∃ cv gc, H gc = none ∧ TabV H' (G.withC cv gc) L { T with c := prc T f T.m } ∧ CostV H' (G.withC cv gc) L { T with c := prc T f T.m } ∧ Heap.le (rem H G.gs) (rem H' (G.withC cv gc).gs)) := by
 obtain ⟨Av, cv0, xv, rfl, hcv0, hrv, hev⟩ := hv
 rw [vals_len] at hcv0
 rw [vals_len]
 have hxvl := hev.len
 rw [vals_len] at hxvl
 have hTn := h.n; refine fn_intro (args := [_, _]) Tryz.func49 rfl rfl Tryz.ntmps49 rfl rfl fun w0 => ?_; refine vc_keep [0, 1] rfl ?_; refine vc_sr ?_; refine vr 2 ?_; refine vco_append Tryz.underlying85 el90 rfl rfl (own_nil _ 90 3) (hrv.le (rem_le _ _)) (hxvl) (els_cells hev numV_one) (by omega) (by omega) ?_; intro v1 H1 ha1; rw [List.nil_append, Nat.zero_add] at ha1; obtain ⟨hb1, hs1⟩ := ha1.rem (gs := G.gs) h.ne (fun q _ e => by cases e); have hown1 := hb1.own; refine vco_call rfl rfl (swhole_ok) ?_; rintro v2 H2 ⟨e2, rfl⟩; rw [e2]; refine vco_build Tryz.underlying85 el90 rfl rfl rfl rfl rfl rfl rfl ?_; intro gz hgz; have hgzs : ¬ gz ∈ G.gs := fun hm => h.ne gz hm (by rw [← hs1 gz hm]; exact hgz)
 have hz1 : ∀ q, q ∈ G.gs → ins H1 gz (whole (cellsL [N3 0 1 none]) 90) q = H q := fun q hq => by rw [ins_other _ _ (fun e => hgzs (by rw [← e]; exact hq))]; exact hs1 q hq
 refine vco_append Tryz.underlying85 el90 rfl rfl (ha1.own.ins _ hgz) (rd_ins _ _ _ _ _ _) (rfl) (by decide) (by omega) (by omega) ?_; intro v3 H3 ha3
 obtain ⟨hb3, hs3⟩ := ha3.rem (gs := G.gs) (fun q hq => by rw [hz1 q hq]; exact h.ne q hq) (fun q hq e => by
  rcases ha1.at_ with h9 | ⟨g9, h9, h10⟩
  · rw [h9] at e; cases e
  · rw [h9] at e; cases e; exact h.ne _ hq h10)
 obtain ⟨gc, cc, rfl, hgc3, hgc0⟩ : ∃ gc cc, v3 = .slice (some ⟨gc, 0, none⟩) (L.w + 1) cc ∧ H3 gc = some ⟨xv ++ cellsL [N3 0 1 none], cc * 3, 90, true⟩ ∧ H gc = none := by
  rcases ha3.own.2 with h9 | ⟨g9, c9, h9, h10, _⟩
  · omega
  ·
   refine ⟨g9, c9, h9, h10, ?_⟩
   rcases ha3.at_ with h11 | ⟨g11, h11, h12⟩
   ·
    rw [h9] at h11
    rcases ha1.at_ with h13 | ⟨g13, h13, h14⟩
    · rw [h13] at h11; cases h11
    · rw [h13] at h11; cases h11; exact h14
   ·
    rw [h9] at h11
    cases h11
    have h15 := (none_ins h12).2
    cases hh : H g9 with
    | none => rfl
    | some en => (obtain ⟨e', h16, _⟩ := ha1.le g9 en hh; rw [h15] at h16; cases h16)
 have hs3H : ∀ q, q ∈ G.gs → H3 q = H q := fun q hq => (hs3 q hq).trans (hz1 q hq); have hle3 : Heap.le (rem H G.gs) (rem H3 G.gs) := (hb1.le.trans (by rw [rem_ins_out _ hgzs]; exact Heap.le_ins _ (by rw [rem_out hgzs]; exact hgz))).trans hb3.le
 have hst3 : H3 G.g = some ⟨G.cells L.w L.u T.m, 9, 97, true⟩ := by rw [hs3H _ G.g_mem]; exact h.st
 refine vr 1 ?_; refine vco_hfld tbOk rfl rfl rfl ?_; obtain ⟨ti, hti, htz⟩ := sz85; refine vco_hst (g := G.g) (o := 7) (.inl rfl) rfl hst3 rfl (by show 7 + 1 ≤ 9; omega) hti htz rfl rfl rfl rfl ?_; have hle4 := rem_withC (v := .slice (some ⟨gc, 0, none⟩) (L.w + 1) cc) (e := { (⟨G.cells L.w L.u T.m, 9, 97, true⟩ : Ent) with xs := splice (G.cells L.w L.u T.m) 7 [.slice (some ⟨gc, 0, none⟩) (L.w + 1) cc] }) hgc0 hle3; have h4 := h.newC (v := .slice (some ⟨gc, 0, none⟩) (L.w + 1) cc) hgc0 hle4 hs3H (by rw [hgc3]; simp) rfl; have hgg : gc ≠ G.g := fun e => h.ne _ G.g_mem (by rw [← e]; exact hgc0)
 have hgc4 : ins H3 G.g { (⟨G.cells L.w L.u T.m, 9, 97, true⟩ : Ent) with xs := splice (G.cells L.w L.u T.m) 7 [.slice (some ⟨gc, 0, none⟩) (L.w + 1) cc] } gc = some ⟨xv ++ cellsL [N3 0 1 none], cc * 3, 90, true⟩ := by rw [ins_other _ _ hgg]; exact hgc3
 generalize ins H3 G.g { (⟨G.cells L.w L.u T.m, 9, 97, true⟩ : Ent) with xs := splice (G.cells L.w L.u T.m) 7 [.slice (some ⟨gc, 0, none⟩) (L.w + 1) cc] } = H4 at hle4 h4 hgc4
 refine vco_k [0, 1] ?_
 have hel4 : Els (NumV (rem H4 (G.withC (.slice (some ⟨gc, 0, none⟩) (L.w + 1) cc) gc).gs)) 3 (xv ++ cellsL [N3 0 1 none]) (vals (prc T f 0) (L.w + 1)) := by
  rw [vals_congr (f := prc T f 0) (g := fun j => if j = L.w then 0 else f j) (fun j _ => by unfold prc; rw [sumN_zero, hTn]; grind), ← vals_ext0]; exact (hev.mono fun vs a => numUp _ _ vs a hle4).append (els_one (numV_int _ (n := 0) (by decide) (by decide)) rfl)
 obtain ⟨G', hG'⟩ : ∃ G', G' = G.withC (.slice (some ⟨gc, 0, none⟩) (L.w + 1) cc) gc := ⟨_, rfl⟩; rw [← hG'] at hle4 h4 hel4
 have hgE : G'.g = G.g := by rw [hG']; rfl
 have hc4 : CostV H4 G' L { T with c := prc T f 0 } := ⟨gc, cc, by rw [hG']; rfl, by rw [hG']; rfl, _, _, hgc4, hel4⟩; have h4' : TabV H4 G' L { T with c := prc T f 0 } := h4.congr rfl rfl (fun _ _ _ _ => rfl) (fun _ _ => rfl); obtain ⟨Ab, cb, hbv, _⟩ := h4.self.bv
 have hl8 : cell H4 ((⟨G.g, 0, none⟩ : Addr).add 8) = some (.slice Ab T.m cb) := by rw [← hbv, ← hgE]; exact h4.cell rfl
 refine vc_sr ?_; refine vr 2 ?_; refine vco_hfld tbOk rfl rfl rfl ?_; refine vco_hload tbOk rfl rfl rfl (hl8) ?_; refine vr 2 ?_; refine vco_k [0, 1, 17, 18, 19] ?_; refine vc_block ?_; refine vc_loop1 (fun (k : Nat) => T.m - k) (fun (k : Nat) => put (put (put (put (put (emp) 0 (.val (.pointer (some ⟨G.g, 0, none⟩)))) 1 (.val (.slice Av L.w cv0))) 17 (.val (.slice Ab T.m cb))) 18 (.val (.int .i64 (T.m : Int)))) 19 (.val (.int .i64 (k : Int)))) (fun (k : Nat) H' => TabV H' G' L { T with c := prc T f k } ∧ CostV H' G' L { T with c := prc T f k } ∧ Heap.le (rem H G.gs) (rem H' G'.gs) ∧ k ≤ T.m) 0 (⟨h4', hc4, hle4, Nat.zero_le _⟩) sub_auto ?_; rintro k H5 ⟨h5, hc5, hle5, hk5⟩; obtain ⟨A2, c2, hbv2, hrb2⟩ := h5.self.bv; rw [hbv] at hbv2
 obtain ⟨rfl, -, rfl⟩ : Ab = A2 ∧ T.m = T.m ∧ cb = c2 := by simpa using hbv2
 refine vc_sr ?_; refine vr 1 ?_; refine vco_k [0, 1, 17, 18, 19, 20] ?_; refine vc_seq ?_; refine vc_cond rfl (fun hb => ?_) (fun hb => ?_)
 ·
  have hkm : k < T.m := by simpa using hb
  have hBk := hB k hkm; obtain ⟨pk, hpk⟩ := h5.get (i := k) hkm; obtain ⟨vs0, _, hn0, hx0⟩ := hev.get (vals_get hBk); obtain ⟨n1, d1, b1, rfl⟩ := hn0.cells; obtain ⟨gc', cc', hcb', hcv', hbc'⟩ := id hc5
  have hl7 : cell H5 ((⟨G.g, 0, none⟩ : Addr).add 7) = some G'.cv := by rw [← hgE]; exact h5.cell rfl
  refine vc_skip ?_; refine vc_keep [0, 1, 17, 18, 19] rfl ?_; refine vc_seq ?_; refine vc_block ?_; refine vc_sr ?_; refine vr 1 ?_; refine vco_at tbOk rfl rfl rfl rfl rfl (hrb2) (by rw [Int.toNat_natCast]; exact basisC_get (B := T.B) hkm) (by omega) (by omega) fun _ => ?_; refine vr 2 ?_; refine vco_k [0, 1, 4, 5, 17, 18, 19] ?_; refine vc_draw .drawC [0, 1, 2, 3, 4, 5, 6, 7, 8, 9, 10] follows (by kernel_rfl) ?_; refine vr 3 ?_; refine vco_hfld tbOk rfl rfl rfl ?_; refine vco_hload tbOk rfl rfl rfl (hl7) ?_; refine vr 3 ?_; refine vco_at_st (vs := [.int .i64 n1, .int .i64 d1, .pointer b1]) tbOk rfl rfl rfl rfl ((hrv.le hle5).le (rem_le _ _)) rfl (by decide) (by rw [Int.toNat_natCast]; exact hx0) (by omega) (by omega) fun _ => ?_; refine vco_callX rfl rfl (by rw [← hgE]; exact red_cost (N := N) h5 hc5 hpk (hn0.le hle5) hN hw (hf _ hBk) (fun j hj => hp k (by omega) j hj) (fun j hj => hA k hkm j hj)) ?_; rintro v6 H6 ⟨h6, hc6, hle6⟩; refine vco_end ?_; refine vc_keep [0, 1, 17, 18, 19] rfl ?_; refine vc_region rfl ?_; refine vco_add rfl rfl ⟨by omega, by omega⟩ ?_; refine vr 1 ?_; refine vco_end ?_; exact ⟨k + 1, by omega, sub_auto, h6.congr rfl rfl (fun _ _ _ _ => rfl) (fun _ _ => rfl), hc6.congr (fun j _ => prc_succ T f k j), hle5.trans hle6, by omega⟩
 ·
  have hb : T.m ≤ k := by simpa using hb
  obtain rfl : k = T.m := by omega
  refine vc_exit ?_; refine ⟨.inl rfl, _, .nil, ?_⟩; exact ⟨_, gc, hgc0, by rw [← hG']; exact h5, by rw [← hG']; exact hc5, by rw [← hG']; exact hle5⟩
end Go.Eng
/- The engine, part 13: drawn regions in which effects leave some cells alone; closures. -/
namespace Go.Eng
open Go
section
variable {P : Program} {n : Nat} {tb : Tb} {all : Array Oper} {s : St} {H : Heap} {md : Mode} {K : St → Heap → Prop} {r : List Oper} {dst : Option Nat} {ty : TypeId} {pos : String} {after : Array Edge} {gd : Option (Nat × Bool)} {kc : Addr → Option Value}
theorem vck_det {op : Op} (v : Value) (hm : isAlloc op = false) (hc : (Mode.drawK kc).cov H) (hg : gdB all s gd = some true) (nb : nbK s dst = true)
    (h : ∀ a w, Vals n s a → (∀ ad u, kc ad = some u → w.cell? ad = some u) → (execOp a.eval ⟨dst, op, ty, pos, after, gd⟩).run P w = .ok (.value v) w) (k : VCO P n all (.drawK kc) r (putO s dst (.val v)) H K) : VCO P n all (.drawK kc) (⟨dst, op, ty, pos, after, gd⟩ :: r) s H K :=
  .detC v rfl hm nb hc (fun a w ha hd => .inl ⟨wanted_of_runs ha (gdB_true (o := ⟨dst, op, ty, pos, after, gd⟩) hg), h a w ha hd⟩) k
theorem vck_move {x : Operand} {v : Value} (hc : (Mode.drawK kc).cov H) (hx : ev s x = some v) (hk : VCO P n all (.drawK kc) r (putO s dst (.val v)) H K) (hg : gdB all s gd = some true := by rfl) (nb : nbK s dst = true := by rfl) : VCO P n all (.drawK kc) (⟨dst, .move x, ty, pos, after, gd⟩ :: r) s H K :=
  vck_det v rfl hc hg nb (fun a w ha _ => by simp [execOp, ev_sound ha hx]) hk
theorem vck_nil {x : Operand} {ad : Addr} (hc : (Mode.drawK kc).cov H) (hx : ev s x = some (.pointer (some ad))) (hk : VCO P n all (.drawK kc) r (putO s dst (.val (.pointer (some ad)))) H K) (hg : gdB all s gd = some true := by rfl) (nb : nbK s dst = true := by rfl) : VCO P n all (.drawK kc) (⟨dst, .nilCheck x, ty, pos, after, gd⟩ :: r) s H K :=
  vck_det _ rfl hc hg nb (fun a w ha _ => by simp [execOp, ev_sound ha hx]) hk
theorem vck_fld {t : TypeId} {x : Operand} {f : Nat} {ad : Addr} {m o z : Nat} {ps : List (Nat × Nat)} (hc : (Mode.drawK kc).cov H) (htb : TbOk P tb) (ht : tb[t]? = some (.st m ps)) (hf : ps[f]? = some (o, z)) (hx : ev s x = some (.pointer (some ad)))
    (hk : VCO P n all (.drawK kc) r (putO s dst (.val (.pointer (some (ad.add o))))) H K) (hg : gdB all s gd = some true := by rfl) (nb : nbK s dst = true := by rfl) : VCO P n all (.drawK kc) (⟨dst, .fieldAddr t x f, ty, pos, after, gd⟩ :: r) s H K :=
  vck_det _ rfl hc hg nb (fun a w ha _ => by
    obtain ⟨fs, ii, hu, h2, h3, _, h4⟩ := htb t _ ht
    obtain ⟨fd, jj, h5, h6, h7, h9, h10⟩ := h4 f _ hf
    have h8 : jj.size ≠ 0 := by rw [h9]; exact h10
    simp only at h6
    simp [execOp, ev_sound ha hx, Instr.fieldAt, run_underlying hu, h5, Instr.sureAddr, fieldPlace_run h7 h8, h6]) hk
theorem vck_load {t : TypeId} {x : Operand} {ad : Addr} {ti : Ti} {v : Value} (hc : (Mode.drawK kc).cov H) (htb : TbOk P tb) (ht : tb[t]? = some ti) (h1 : oneB ti = true) (hx : ev s x = some (.pointer (some ad))) (hv : kc ad = some v)
    (hk : VCO P n all (.drawK kc) r (putO s dst (.val v)) H K) (hg : gdB all s gd = some true := by rfl) (nb : nbK s dst = true := by rfl) : VCO P n all (.drawK kc) (⟨dst, .load t x, ty, pos, after, gd⟩ :: r) s H K :=
  vck_det _ rfl hc hg nb (fun a w ha hd => by simp [execOp, ev_sound ha hx, Instr.loadAt, Instr.sureAddr, run_loadVar_one (htb t _ ht) h1 (hd ad v hv)]) hk
theorem vck_callC {f : Operand} {fid : FuncId} {cap args : List Value} {xs : List Operand} {ts : Array TypeId} {Post : Value → Heap → Prop} (hf : ev s f = some (.func (.func fid) #[] cap.toArray)) (hx : evL s xs = some args)
    (h : Fn P fid (args ++ cap).toArray H Post) (hm : ∀ v H', Post v H' → (Mode.drawK kc).cov H') (hk : ∀ v H', Post v H' → VCO P n all (.drawK kc) r (putO s dst (.val v)) H' K) (hg : gdB all s gd = some true := by rfl) (nb : nbK s dst = true := by rfl) : VCO P n all (.drawK kc) (⟨dst, .call ⟨.value f, xs.toArray, ts⟩, ty, pos, after, gd⟩ :: r) s H K :=
  .effK Post rfl (.inl kd_call) nb (call_ev (cap := cap) hf hx hg h) (.inr hm) fun v H' hp _ => hk v H' hp
theorem vck_build1 {t e bytes : Nat} {x : Operand} {z v : Value} (ht : P.underlying t = some (.slice e)) (he : ElT P e 1 z bytes) (hx : ev s x = some v) (hv : v.cells = #[v])
    (hk : ∀ g, H g = none → VCO P n all (.drawK kc) r (putO s dst (.val (.slice (some ⟨g, 0, none⟩) 1 1))) (ins H g (whole [v] e)) K) (hg : gdB all s gd = some true := by rfl) (nb : nbK s dst = true := by rfl) :
    VCO P n all (.drawK kc) (⟨dst, .buildSlice t 1 #[(0, x)], ty, pos, after, gd⟩ :: r) s H K :=
  .freshK (fun g => .slice (some ⟨g, 0, none⟩) 1 1) [v] e rfl rfl nb (fun a w ha => by
    refine ⟨wanted_of_runs ha (gdB_true (o := ⟨dst, .buildSlice t 1 #[(0, x)], ty, pos, after, gd⟩) hg), ?_⟩
    obtain ⟨i, hi, hz, hsz, _, hzs, _⟩ := he
    have hvs : v.cells.size = 1 := by rw [hv]; rfl
    have hfill : Instr.fill (fun k => some (k * i.size, i.size)) (madeCells z.cells (1 * i.size)) [(0, v)] = some #[v] := by
      have h1 := fill_seq (sz := 1) [v] 0 [] (madeCells z.cells 1).toList (fun u hu => by rw [List.mem_singleton] at hu; rw [hu]; exact hvs) rfl (by simp [size_madeCells])
      simp only [List.nil_append, Array.toArray_toList, List.length_singleton] at h1
      have e1 : cellsL [v] = [v] := by simp [cellsL, hv]
      rw [e1] at h1
      rw [hsz]
      simpa [List.range'] using h1
    have := run_buildS (P := P) (w := w) (t := t) (e := e) (len := 1) (i := i) (z := z) (parts := #[(0, v)]) (cells := #[v]) ht hi hz (by rw [hsz]; decide) (by rw [hsz]; decide) hfill
    simp only [execOp, List.map_toArray, List.map_cons, List.map_nil, ev_sound ha hx, Sem.run_bind, this, Result.andThen_ok, Sem.run_pure]) fun g hg _ => hk g hg
theorem vck_append {t e sz bytes : Nat} {x y : Operand} {z v : Value} {m k c : Nat} {A : Option Addr} {xs news : List Value} (ht : P.underlying t = some (.slice e)) (he : ElT P e sz z bytes) (hx : ev s x = some v) (hy : ev s y = some (.slice A k c)) (ho : Own H v e sz m xs)
    (hr : Rd H A news) (hl : news.length = k * sz) (h1 : ∀ u ∈ news, u.oneCell' = true) (hb : (m + k) * bytes ≤ 140737488355328) (hml : m + k ≤ 9223372036854775807) (hc : (Mode.drawK kc).cov H)
    (hk : ∀ v' H', App H v e sz (m + k) (xs ++ news) v' H' → VCO P n all (.drawK kc) r (putO s dst (.val v')) H' K) (hg : gdB all s gd = some true := by rfl) (nb : nbK s dst = true := by rfl) : VCO P n all (.drawK kc) (⟨dst, .call ⟨.builtin .append, #[x, y], #[t, t]⟩, ty, pos, after, gd⟩ :: r) s H K :=
  .effK (fun v' H' => App H v e sz (m + k) (xs ++ news) v' H') rfl (.inl (by simp [kd, pureCall])) nb (fun a w ha hd => by
    refine ⟨wanted_of_runs ha (gdB_true (o := ⟨dst, .call ⟨.builtin .append, #[x, y], #[t, t]⟩, ty, pos, after, gd⟩) hg), ?_⟩
    obtain ⟨v', w', H', h2, h3, h4, h5⟩ := run_app (P := P) (c := c) hd ht he ho hr hl h1 hb hml ty
    have hex : (execOp a.eval ⟨dst, .call ⟨.builtin .append, #[x, y], #[t, t]⟩, ty, pos, after, gd⟩).run P w = .ok (.value v') w' := by
      simp [execOp, resolve, invoke, builtin, ev_sound ha hx, ev_sound ha hy, h2]
    unfold yields
    rw [hex]
    exact ⟨H', h3, h4, h5⟩) (.inr fun v' H' ha ad u hu => cell_le ha.le (hc ad u hu)) fun v' H' ha _ => hk v' H' ha
theorem hst_ev {t : TypeId} {x y : Operand} {g o sz : Nat} {ent : Ent} {v : Value} {vs : List Value} {ii : TypeInfo} (hx : ev s x = some (.pointer (some ⟨g, o, none⟩))) (hg : H g = some ent) (hown : ent.own = true) (hin : o + sz ≤ ent.xs.length)
    (hii : P.info? t = some ii) (hsz : ii.size = sz) (hy : ev s y = some v) (hv : v.cells = vs.toArray) (hvl : vs.length = sz) (h1 : vs.all oneV = true) (hgd : gdB all s gd = some true) :
    EV P n all ⟨none, .store t x y, ty, pos, after, gd⟩ s H (fun _ H' => H' = ins H g { ent with xs := splice ent.xs o vs }) := fun a w ha hd => by
  refine ⟨wanted_of_runs ha (gdB_true (o := ⟨none, .store t x y, ty, pos, after, gd⟩) hgd), ?_⟩
  obtain ⟨ob, h2, cur, fz, rfl, h3, h4, h5⟩ := hd g ent hg
  have hfz := h5 hown
  subst hfz
  have hcur : cur = cur.toList.toArray := by simp
  have hlen : ent.xs.length ≤ cur.toList.length := by
    rcases Nat.eq_zero_or_pos ent.xs.length with h | h
    · omega
    · have hx := h4 (ent.xs.length - 1) _ (List.getElem?_eq_getElem (by omega))
      have := (Array.getElem?_eq_some_iff.1 hx).1
      simp; omega
  rw [hcur] at h2
  obtain ⟨w', h6, h7, h8, h9, h10, h11, h12⟩ := storeCells_box (P := P) vs cur.toList w o 0 h2 (fun u hu => List.all_eq_true.1 h1 u hu) (by omega)
  have hex : (execOp a.eval ⟨none, .store t x y, ty, pos, after, gd⟩).run P w = .ok .skip w' := by
    simp [execOp, ev_sound ha hx, ev_sound ha hy, Instr.storeAt, Instr.sureAddr, storeVar, sizeOf, typeInfo, hii, hsz, hv, hvl, h6]
  unfold yields
  rw [hex]
  refine ⟨_, rfl, put_block (o := .cells (splice cur.toList (o + 0) vs).toArray ent.elem (0, 0)) hd h7 h8 h9 (by omega) (fun q _ hq => h11 q hq) h12 ⟨_, (0, 0), rfl, ?_, ?_, fun _ => rfl⟩ (.inl ⟨_, hg, hown, hown, rfl, rfl⟩)⟩
  · simp [splice_length, h3]
  · intro q u hq
    have := splice_ext vs ent.xs cur.toList o (fun i w hw => by have := h4 i w hw; simpa using this) (by omega) q u hq
    simpa using this
theorem vck_hst {t : TypeId} {x y : Operand} {g o sz : Nat} {ent : Ent} {v : Value} {vs : List Value} {ii : TypeInfo} (hx : ev s x = some (.pointer (some ⟨g, o, none⟩))) (hg : H g = some ent) (hown : ent.own = true) (hin : o + sz ≤ ent.xs.length)
    (hii : P.info? t = some ii) (hsz : ii.size = sz) (hy : ev s y = some v) (hv : v.cells = vs.toArray) (hvl : vs.length = sz) (h1 : vs.all oneV = true)
    (hk : VCO P n all (.drawK kc) r s (ins H g { ent with xs := splice ent.xs o vs }) K) (hgd : gdB all s gd = some true := by rfl) : VCO P n all (.drawK kc) (⟨none, .store t x y, ty, pos, after, gd⟩ :: r) s H K :=
  .effK _ rfl (.inr rfl) rfl (hst_ev hx hg hown hin hii hsz hy hv hvl h1 hgd) (.inl rfl) fun _ H' hH _ => by rw [hH]; exact hk
/-- A closure. -/
theorem vco_mkfunc {f : FuncId} {xs : List Operand} {cap : List Value} (hx : evL s xs = some cap) (hk : VCO P n all md r (putO s dst (.val (.func (.func f) #[] cap.toArray))) H K) (hg : gdB all s gd = some true := by rfl) (nb : md.nb s dst = true := by rfl) :
    VCO P n all md (⟨dst, .makeFunc (.func f) #[] xs.toArray, ty, pos, after, gd⟩ :: r) s H K :=
  vco_detN _ rfl hg nb (fun a w ha _ => by simp [execOp, evL_sound ha xs cap hx, Instr.makeFunc]) hk
end
end Go.Eng
/- Walks over package simplex, tableau.go, part 8: row, column. -/
namespace Go.Eng
open Go.Proofs Num Lp
/-- The first k columns of a row. -/
def rwk (L : TL) (a : Nat → Rat) (sg : Rat) : Nat → Nat → Rat
  | 0 => fun _ => 0
  | k + 1 => if 0 ≤ L.mZ k then upd (upd (rwk L a sg k) (L.pF k) (a k * sg)) (L.mZ k).toNat (-(a k * sg)) else upd (rwk L a sg k) (L.pF k) (a k * sg)
def rwS (f : Nat → Rat) (rel slack : Int) (sg : Rat) : Nat → Rat := if rel = 1 then upd f slack.toNat sg else if rel = 3 then upd f slack.toNat (-sg) else f
/-- The whole row. -/
def rowF (L : TL) (n : Nat) (a : Nat → Rat) (b : Rat) (rel slack : Int) (unit : Nat) (sg : Rat) : Nat → Rat :=
  upd (upd (rwS (rwk L a sg n) rel slack sg) unit 1) L.w (b * sg)
/-- What a row of a program looks like: coefficients, relation, bound. -/
def RowP (N : Nat) (H : Heap) (vs : List Value) (r : List Rat × Int × Rat) : Prop :=
  ∃ c f u w, vs = [c, .int .i64 r.2.1, .bool f, u, w] ∧ SlV (RatP N) 3 H c r.1 ∧ RawV H (.agg #[.bool f, u, w]) r.2.2 N
theorem rowUp (N : Nat) : Up (RowP N) := fun H H' vs r hl ⟨c, f, u, w, h1, h2, h3⟩ => ⟨c, f, u, w, h1, h2.le (ratUp N) hl, h3.le hl⟩
theorem RowP.cells {N : Nat} {H : Heap} {vs : List Value} {r : List Rat × Int × Rat} (h : RowP N H vs r) : ∃ A c k f A1 m1 c1 A2 m2 c2, vs = [.slice A k c, .int .i64 r.2.1, .bool f, .slice A1 m1 c1, .slice A2 m2 c2] ∧ k = r.1.length := by
  obtain ⟨c, f, u, w, h1, ⟨A, cc, xs, rfl, _⟩, h3⟩ := h
  obtain ⟨f', u', w', l1, l2, e, ⟨A1, c1, rfl, _, _⟩, ⟨A2, c2, rfl, _, _⟩, _⟩ := h3
  have := arr3 (vs := [.bool f, u, w]) e
  simp only [List.cons.injEq, Value.bool.injEq, and_true] at this
  obtain ⟨_, rfl, rfl⟩ := this
  exact ⟨A, cc, _, f, A1, _, c1, A2, _, c2, h1, rfl⟩
theorem column_ok {H : Heap} {gv g w : Nat} {ts : List Value} (hv : cell H ⟨gv, 0, none⟩ = some (.pointer (some ⟨g, 0, none⟩))) (hg : H g = some ⟨.int .i64 (w : Int) :: ts, 9, 97, true⟩) (hne : gv ≠ g) (hw : (w : Int) ≤ 1000000) :
  Fn Tryz.prog 122 #[.pointer (some ⟨gv, 0, none⟩)] H (fun v H' => v = .int .i64 (w : Int) ∧ H' = ins H g ⟨.int .i64 ((w + 1 : Nat) : Int) :: ts, 9, 97, true⟩) := by
 have hc0 : cell H ((⟨g, 0, none⟩ : Addr)) = some (.int .i64 (w : Int)) := by simp [cell, hg]
 have hv' : ∀ e, cell (ins H g e) ⟨gv, 0, none⟩ = some (.pointer (some ⟨g, 0, none⟩)) := fun e => by
  simp only [cell, ins_other _ _ hne] at hv ⊢; exact hv
 refine fn_intro (args := [_]) Tryz.func122 rfl rfl Tryz.ntmps122 rfl rfl fun w0 => ?_; refine vc_keep [0] rfl ?_; refine vc_sr ?_; refine vr 1 ?_; refine vco_k [0] ?_; refine vc_sr ?_; refine vco_hload tbOk rfl rfl rfl (hv) ?_; refine vr 1 ?_; refine vco_hfld tbOk rfl rfl rfl ?_; refine vco_hload tbOk rfl rfl rfl (hc0) ?_; refine vco_add rfl rfl ⟨by omega, by omega⟩ ?_; refine vr 1 ?_; refine vco_hfld tbOk rfl rfl rfl ?_; obtain ⟨ti, hti, htz⟩ := sz3; refine vco_hst (g := g) (o := 0) (.inl rfl) rfl hg rfl (by show 0 + 1 ≤ (Value.int .i64 (w : Int) :: ts).length; simp) hti htz rfl rfl rfl rfl ?_; rw [show ({ (⟨.int .i64 (w : Int) :: ts, 9, 97, true⟩ : Ent) with xs := splice (.int .i64 (w : Int) :: ts) 0 [.int .i64 ((w : Int) + 1)] } : Ent) = ⟨.int .i64 ((w + 1 : Nat) : Int) :: ts, 9, 97, true⟩ from rfl]; refine vco_k [0] ?_; refine vc_sr ?_; refine vco_hload tbOk rfl rfl rfl (hv' _) ?_; refine vr 1 ?_; refine vco_hfld tbOk rfl rfl rfl ?_; refine vco_hload tbOk rfl rfl rfl (show cell (ins H g ⟨.int .i64 ((w + 1 : Nat) : Int) :: ts, 9, 97, true⟩) ⟨g, 0, none⟩ = some (.int .i64 ((w + 1 : Nat) : Int)) from by simp [cell, ins]) ?_; refine vco_sub rfl rfl ⟨by omega, by omega⟩ ?_; refine vr 1 ?_; refine vco_k [1] ?_; refine vc_ret ⟨.inr rfl, _, .tmp rfl (.nil), ?_⟩; refine ⟨?_, rfl⟩
 show Value.int .i64 (((w + 1 : Nat) : Int) - 1) = _
 rw [show (((w + 1 : Nat) : Int) - 1) = (w : Int) by omega]
end Go.Eng
