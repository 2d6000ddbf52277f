/- Part 7 of the proof: Ref4, Ref5, Ref6, Tab9, Nt, Nt2, Nt3. -/
import Derived.Test.YtbbjgagpbffooaaGreatA06
set_option linter.unusedVariables false
/- Walks over package amortcostref1, part 4: the quotient. -/
namespace Go.Eng
open Go.Proofs Num
/-- The guess of a digit: any number below the base. -/
def RetG (H : Heap) (v : Value) (H' : Heap) : Prop := H' = H ∧ ∃ d : Nat, v = .int .u64 (d : Int) ∧ d ≤ 999999999
theorem guess_ok {H : Heap} {u v : Value} {x y : Nat} (hx : NatV H u x) (hy : NatV H v y) (hy2 : 2 ≤ (limbs y).length) (hxy : (limbs x).length ≤ (limbs y).length + 1) (hm : ((limbs y).length : Int) ≤ 8796093022208) :
  Fn Tryz.prog 112 #[u, v] H (RetG H) := by
 obtain ⟨A, c, rfl, hc, hr⟩ := hx
 obtain ⟨A', c', rfl, hc', hr'⟩ := hy
 have hla := (nrm_limbs x).lt
 have hlb := (nrm_limbs y).lt
 obtain ⟨k, hk⟩ : ∃ k, (limbs y).length = k + 2 := ⟨(limbs y).length - 2, by omega⟩
 have hj1 : (((limbs y).length : Int) - 1).toNat = k + 1 := by omega
 have hj2 : (((limbs y).length : Int) - 2).toNat = k := by omega
 obtain ⟨b1, hb1⟩ : ∃ z, (limbs y)[k + 1]? = some z := ⟨_, List.getElem?_eq_getElem (by omega)⟩
 obtain ⟨b0, hb0⟩ : ∃ z, (limbs y)[k]? = some z := ⟨_, List.getElem?_eq_getElem (by omega)⟩
 have hb1B := hlb.get hb1
 have hb0B := hlb.get hb0
 have hb10 : b1 ≠ 0 := (nrm_limbs y).last b1 (by rw [List.getLast?_eq_getElem?, hk]; exact hb1)
 rw [B_eq] at hb1B hb0B; refine fn_intro (args := [_, _]) Tryz.func112 rfl rfl Tryz.ntmps112 rfl rfl fun w0 => ?_; refine vc_keep [0, 1] rfl ?_; refine vc_sr ?_; refine vr 1 ?_; refine vco_k [0, 1] ?_; refine vc_sr ?_; refine vr 3 ?_; refine vco_k [0, 1, 5] ?_; refine vc_seq ?_; refine vc_sr ?_; refine vr 4 ?_; refine vco_k [0, 1, 5, 15] ?_; refine vc_cond rfl (fun hb => ?_) (fun hb => ?_)
 ·
  skip
  refine vc_sr ?_; refine vr 1 ?_; refine vco_k [4] ?_; refine vc_ret ⟨.inr rfl, _, .tmp rfl (.nil), ?_⟩; exact ⟨rfl, 0, rfl, by omega⟩
 ·
  have hb : (limbs y).length ≤ (limbs x).length := by simpa using hb
  obtain ⟨r1, hr1⟩ : ∃ z, (limbs x)[k + 1]? = some z := ⟨_, List.getElem?_eq_getElem (by omega)⟩; obtain ⟨r0, hr0⟩ : ∃ z, (limbs x)[k]? = some z := ⟨_, List.getElem?_eq_getElem (by omega)⟩; have hr1B := hla.get hr1; have hr0B := hla.get hr0; rw [B_eq] at hr1B hr0B; have hq0 : ((r1 : Int) * 1000000000 + (r0 : Int)) / ((b1 : Int) * 1000000000 + (b0 : Int)) < 1000000000 := Int.ediv_lt_of_lt_mul (by omega) (by omega); have hq1 : 0 ≤ ((r1 : Int) * 1000000000 + (r0 : Int)) / ((b1 : Int) * 1000000000 + (b0 : Int)) := Int.ediv_nonneg (by omega) (by omega); obtain ⟨q, hq⟩ : ∃ q : Nat, (q : Int) = ((r1 : Int) * 1000000000 + (r0 : Int)) / ((b1 : Int) * 1000000000 + (b0 : Int)) := ⟨_, Int.toNat_of_nonneg hq1⟩; rw [← hq] at hq0; refine vc_skip ?_; refine vc_keep [0, 1, 5] rfl ?_; refine vc_sd .drawB [0, 1, 2, 3, 4, 5, 6, 7, 8, 9, 10, 11, 12, 13, 14] follows (by kernel_rfl) ?_; refine vr 2 ?_; refine vco_sub rfl rfl ⟨by omega, by omega⟩ ?_; refine vco_at tbOk rfl rfl rfl rfl rfl (hr') (by rw [hj1]; exact U_get hb1) (by omega) (by omega) fun _ => ?_; refine vco_conv tbOk rfl rfl rfl ⟨by omega, by omega⟩ ?_; refine vco_mul rfl rfl ⟨by omega, by omega⟩ ?_; refine vr 2 ?_; refine vco_sub rfl rfl ⟨by omega, by omega⟩ ?_; refine vco_at tbOk rfl rfl rfl rfl rfl (hr') (by rw [hj2]; exact U_get hb0) (by omega) (by omega) fun _ => ?_; refine vco_conv tbOk rfl rfl rfl ⟨by omega, by omega⟩ ?_; refine vco_add rfl rfl ⟨by omega, by omega⟩ ?_; refine vr 1 ?_; refine vco_k [0, 5, 6] ?_
  refine vc_sd .drawB [0, 1, 2, 3, 4, 5, 6, 7, 8, 9, 10, 11, 12, 13, 14] follows (by kernel_rfl) ?_; refine vr 2 ?_; refine vco_sub rfl rfl ⟨by omega, by omega⟩ ?_; refine vco_at tbOk rfl rfl rfl rfl rfl (hr) (by rw [hj1]; exact U_get hr1) (by omega) (by omega) fun _ => ?_; refine vco_conv tbOk rfl rfl rfl ⟨by omega, by omega⟩ ?_; refine vco_mul rfl rfl ⟨by omega, by omega⟩ ?_; refine vr 2 ?_; refine vco_sub rfl rfl ⟨by omega, by omega⟩ ?_; refine vco_at tbOk rfl rfl rfl rfl rfl (hr) (by rw [hj2]; exact U_get hr0) (by omega) (by omega) fun _ => ?_; refine vco_conv tbOk rfl rfl rfl ⟨by omega, by omega⟩ ?_; refine vco_add rfl rfl ⟨by omega, by omega⟩ ?_; refine vr 1 ?_; refine vco_k [0, 5, 6, 7] ?_; refine vc_seq ?_; refine vc_sr ?_; refine vr 4 ?_; refine vco_k [0, 5, 6, 7, 47] ?_; refine vc_cond rfl (fun hb => ?_) (fun hb => ?_)
  ·
   skip
   refine vc_sr ?_; refine vr 2 ?_; refine vco_quo rfl rfl (by omega) (by omega) ⟨by rw [← hq]; omega, by rw [← hq]; omega⟩ ?_; rw [← hq]; refine vr 1 ?_; refine vco_k [4] ?_; refine vc_ret ⟨.inr rfl, _, .tmp rfl (.nil), ?_⟩; exact ⟨rfl, q, rfl, by omega⟩
  ·
   have hb : (limbs x).length = (limbs y).length + 1 := by simp at hb; omega
   obtain ⟨rn, hrn⟩ : ∃ z, (limbs x)[(limbs y).length]? = some z := ⟨_, List.getElem?_eq_getElem (by omega)⟩; refine vc_skip ?_; refine vc_keep [0, 5, 6, 7] rfl ?_; refine vc_sr ?_; refine vr 2 ?_; refine vco_at tbOk rfl rfl rfl rfl rfl (hr) (U_get hrn) (by omega) (by omega) fun _ => ?_; refine vco_tofl Tryz.underlying76 Tryz.underlying188 rfl fun f1 => ?_; refine vco_flop (.inr (.inl rfl)) rfl rfl fun f2 => ?_; refine vr 1 ?_; refine vco_tofl Tryz.underlying75 Tryz.underlying188 rfl fun f3 => ?_; refine vco_flop (.inl rfl) rfl rfl fun f4 => ?_; refine vr 1 ?_; refine vco_k [6, 8] ?_; refine vc_sr ?_; refine vr 2 ?_; refine vco_tofl Tryz.underlying75 Tryz.underlying188 rfl fun f5 => ?_; refine vco_flop (.inr (.inr rfl)) rfl rfl fun f6 => ?_; refine vco_flto Tryz.underlying188 Tryz.underlying75 rfl fun f7 hf7 => ?_; refine vr 1 ?_; refine vco_k [9] ?_; refine vc_sr ?_; refine vr 1 ?_; refine vco_ariw (v := ((f7 : Int) + 2) % 18446744073709551616) rfl rfl rfl ?_; refine vco_min rfl rfl ?_
   generalize hmn : (if (999999999 : Int) < ((f7 : Int) + 2) % 18446744073709551616 then (999999999 : Int) else ((f7 : Int) + 2) % 18446744073709551616) = mn
   have hmn2 : 0 ≤ mn ∧ mn ≤ 999999999 := by rw [← hmn]; split <;> omega
   obtain ⟨q2, rfl⟩ : ∃ q2 : Nat, mn = (q2 : Int) := ⟨mn.toNat, by omega⟩; refine vr 1 ?_; refine vco_k [4] ?_; refine vc_ret ⟨.inr rfl, _, .tmp rfl (.nil), ?_⟩; exact ⟨rfl, q2, rfl, by omega⟩
end Go.Eng
/- Walks over package amortcostref1, part 5: division. -/
namespace Go.Eng
open Go.Proofs Num
theorem cmpN_pos {x y : Nat} : (0 < cmpN x y) ↔ y < x := by
  unfold cmpN; split
  · omega
  · split <;> omega
theorem cmpN_neg {x y : Nat} : (cmpN x y < 0) ↔ x < y := by
  unfold cmpN; split
  · omega
  · split <;> omega
theorem cmpN_ge0 {x y : Nat} : (0 ≤ cmpN x y) ↔ y ≤ x := by
  unfold cmpN; split
  · omega
  · split <;> omega
theorem val_drop_cons {l : List Nat} {k d : Nat} (h : l[k]? = some d) : val (l.drop k) = d + B * val (l.drop (k + 1)) := by
  obtain ⟨hk, e⟩ := List.getElem?_eq_some_iff.1 h
  rw [List.drop_eq_getElem_cons hk, e, val_cons]
theorem lt_cons {a : Nat} {l : List Nat} (ha : a < B) (h : Lt l) : Lt (a :: l) := fun z hz => by
  rcases List.mem_cons.1 hz with rfl | hz
  · exact ha
  · exact h z hz
theorem OwnU.lim' {H : Heap} {v : Value} {l : List Nat} (h : Own H v 76 1 l.length (U l)) : LimV H v l := OwnU.lim h
theorem natDiv_ok {H : Heap} {u v : Value} {x y : Nat} (hx : NatV H u x) (hy : NatV H v y) (hy0 : 0 < y) (hm : ((limbs x).length : Int) < 4398046511104) (hm' : ((limbs y).length : Int) < 4398046511104) :
  Fn Tryz.prog 83 #[u, v] H (RetQR H x y) := by
 have hx0 := hx
 have hy1 := hy
 obtain ⟨A, c, rfl, hc, hr⟩ := hx
 obtain ⟨A', c', rfl, hc', hr'⟩ := hy
 have hla := (nrm_limbs x).lt
 have hlb := (nrm_limbs y).lt
 have hyne : (limbs y).length ≠ 0 := fun e => limbs_ne hy0 (List.eq_nil_of_length_eq_zero e); refine fn_intro (args := [_, _]) Tryz.func83 rfl rfl Tryz.ntmps83 rfl rfl fun w0 => ?_; refine vc_keep [0, 1] rfl ?_; refine vc_sr ?_; refine vr 2 ?_; refine vco_k [0, 1] ?_; refine vc_seq ?_; refine vc_sr ?_; refine vr 2 ?_; refine vco_call rfl rfl (natCmp_ok hx0 hy1 (by omega)) ?_; rintro v1 H1 ⟨e1, rfl⟩; rw [e1]; refine vr 1 ?_; refine vco_k [0, 1, 15] ?_; refine vc_cond rfl (fun hb => ?_) (fun hb => ?_)
 ·
  have hxy : x < y := cmpN_neg.1 (by simpa using hb); refine vc_sr ?_; refine vr 1 ?_; refine vco_call rfl rfl (cut_ok hx0 hla (by omega)) ?_; rintro v1 H1 hp; rw [val_limbs] at hp; refine vr 2 ?_; refine vco_k [4, 5] ?_; refine vc_ret ⟨.inr rfl, _, .tmp rfl (.tmp rfl (.nil)), ?_⟩; exact ⟨hp.le, _, _, rfl, by rw [Nat.div_eq_of_lt hxy]; exact natV_zero _, by rw [Nat.mod_eq_of_lt hxy]; exact hp.nat⟩
 ·
  have hxy : y ≤ x := cmpN_ge0.1 (by simpa using hb); refine vc_skip ?_; refine vc_keep [0, 1] rfl ?_; refine vc_seq ?_; refine vc_sr ?_; refine vr 3 ?_; refine vco_k [0, 1, 20] ?_; refine vc_cond rfl (fun hb => ?_) (fun hb => ?_)
  ·
   have hb : (limbs y).length = 1 := by simp at hb; omega
   have hy2 : (limbs y)[0]? = some y := by
    obtain ⟨z, hz⟩ := List.length_eq_one_iff.1 hb; have := val_limbs y; rw [hz] at this ⊢
    simp [val] at this
    simp [this]
   have hyB := hlb.get hy2; rw [B_eq] at hyB; refine vc_sr ?_; refine vr 2 ?_; refine vco_at tbOk rfl rfl rfl rfl rfl (hr') (U_get hy2) (by omega) (by omega) fun _ => ?_; refine vco_conv tbOk rfl rfl rfl ⟨by omega, by omega⟩ ?_; refine vco_call rfl rfl (natSmall_ok hx0 hla hyB hy0 (by omega)) ?_; rintro v1 H2 ⟨hle, q, rfl, hq⟩; refine vr 1 ?_; rw [val_limbs] at hq ⊢; refine vr 4 ?_; refine vco_k [6, 7] ?_; refine vc_sr ?_; refine vr 2 ?_; refine vco_call rfl rfl (limbs_ok (x := x % y) (by have := Nat.mod_lt x hy0; omega)) ?_; intro v1 H3 hp; refine vr 2 ?_; refine vco_k [4, 5] ?_; refine vc_ret ⟨.inr rfl, _, .tmp rfl (.tmp rfl (.nil)), ?_⟩; exact ⟨hle.trans hp.le, _, _, rfl, hq.le hp.le, hp.nat⟩
  ·
   have hb : (limbs y).length ≠ 1 := by simp at hb; omega
   have hn2 : 2 ≤ (limbs y).length := by omega
   refine vc_skip ?_; refine vc_keep [0, 1] rfl ?_; refine vc_sr ?_; refine vr 2 ?_; refine vco_make Tryz.underlying34 el76 rfl rfl rfl (by omega) (by omega) (by omega) (by omega) ?_; intro g hg; rw [show (((limbs x).length : Int)).toNat = (limbs x).length from by omega, made_uent']; refine vr 1 ?_; refine vco_k [0, 1, 8] ?_; refine vc_sr ?_; refine vr 1 ?_; refine vco_k [0, 1, 8, 9] ?_; refine vc_seq ?_; refine vc_sr ?_; refine vr 2 ?_; refine vco_sub rfl rfl ⟨by omega, by omega⟩ ?_; refine vr 1 ?_; refine vco_k [0, 1, 8, 9, 10] ?_; refine vc_block ?_; refine vc_loop4 (fun (k : Nat) (rv : Value) (r : Nat) (l : List Nat) => k) (fun (k : Nat) (rv : Value) (r : Nat) (l : List Nat) => put (put (put (put (put (emp) 0 (.val (.slice A (limbs x).length c))) 1 (.val (.slice A' (limbs y).length c'))) 8 (.val (.slice (some ⟨g, 0, none⟩) (limbs x).length (limbs x).length))) 9 (.val (rv))) 10 (.val (.int .i64 ((k : Int) - 1)))) (fun (k : Nat) (rv : Value) (r : Nat) (l : List Nat) H' => Heap.le H (rem H' [g]) ∧ H' g = some (uent l (limbs x).length) ∧ l.length = (limbs x).length ∧ Lt l ∧ k ≤ (limbs x).length ∧ r < y ∧ NatV (rem H' [g]) rv r ∧ val ((limbs x).drop k) = val (l.drop k) * y + r) (limbs x).length (.slice none 0 0) 0 _ (⟨by rw [rem_ins_new _ hg, rem_nil]; exact .refl _, ins_same _ _ _, by simp, Lt.replicate _, Nat.le_refl _, hy0, natV_zero _, by simp [val]⟩) sub_auto ?_; rintro k rv r l H1 ⟨hle, hgq, hll, hlt, hk, hry, hrv, hv⟩
   obtain ⟨Ar, cr, rfl, hcr, hrr⟩ := id hrv; have hrlen := limbs_len_mono (Nat.le_of_lt hry); have hleH := hle.trans (rem_le H1 [g]); refine vc_seq ?_; refine vc_sr ?_; refine vr 2 ?_; refine vco_k [0, 1, 8, 9, 10, 40] ?_; refine vc_cond rfl (fun hb => ?_) (fun hb => ?_)
   ·
    have hb : 0 < k := by simp at hb; omega
    obtain ⟨ai, hai⟩ : ∃ d, (limbs x)[k - 1]? = some d := ⟨_, List.getElem?_eq_getElem (by omega)⟩; have haiB := hla.get hai; rw [B_eq] at haiB
    have hki : (((k : Int) - 1)).toNat = k - 1 := by omega
    refine vc_skip ?_; refine vc_keep [0, 1, 8, 9, 10] rfl ?_; refine vc_seq ?_; refine vc_block ?_; refine vc_sr ?_; refine vr 2 ?_; refine vco_at tbOk rfl rfl rfl rfl rfl (hr.le hleH) (by rw [hki]; exact U_get hai) (by omega) (by omega) fun _ => ?_; refine vco_build Tryz.underlying34 el76 rfl rfl rfl rfl rfl rfl rfl ?_; intro gb hgb
    have hgbg : gb ≠ g := fun e => by subst e; rw [hgq] at hgb; cases hgb
    refine vr 1 ?_; refine vco_append Tryz.underlying34 el76 rfl rfl ((⟨rfl, .inr ⟨gb, 1, rfl, ins_same _ _ _, Nat.le_refl _, by decide⟩⟩ : Own _ _ 76 1 1 (U [ai]))) ((hrr.le (rem_le _ _)).le (Heap.le_ins _ hgb)) (by rw [U_length, Nat.mul_one]) (U_one _) (by omega) (by omega) ?_; intro v1 H2 ha; have hr1 := ha.rem (gs := [g]) (fun q hq => by simp only [List.mem_singleton] at hq; subst hq; rw [ins_other _ _ (Ne.symm hgbg), hgq]; simp) (fun q hq => by simp only [List.mem_singleton] at hq; subst hq; intro e; cases e; exact hgbg rfl)
    have hg2 : H2 g = some (uent l (limbs x).length) := by rw [hr1.2 g (List.mem_singleton.2 rfl), ins_other _ _ (Ne.symm hgbg), hgq]
    have hle2 : Heap.le (rem H1 [g]) (rem H2 [g]) := (rem_mono [g] (Heap.le_ins _ hgb)).trans hr1.1.le; have hlim : LimV (rem H2 [g]) v1 (ai :: limbs r) := OwnU.lim' (by have h0 := hr1.1.own; rw [← U_append, Nat.add_comm] at h0; exact h0); refine vco_call rfl rfl (Fn.frame (gs := [g]) (fun q hq => by simp only [List.mem_singleton] at hq; subst hq; rw [hg2]; simp) (cut_ok hlim (lt_cons (by rw [B_eq]; exact haiB) (nrm_limbs r).lt) (by rw [List.length_cons]; omega))) ?_; rintro v2 H3 ⟨hp3, hs3⟩; rw [val_cons, val_limbs] at hp3; obtain ⟨r1, hr1d⟩ : ∃ r1, r1 = ai + B * r := ⟨_, rfl⟩; rw [← hr1d] at hp3; have hg3 := (hs3 g (List.mem_singleton.2 rfl)).trans hg2; have hle3 := hle2.trans hp3.le
    have hr1B : r1 < B * y := by rw [hr1d, B_eq]; omega
    have hr1l : (limbs r1).length ≤ (limbs y).length + 1 := limbs_len_le.2 (by rw [Nat.pow_succ, Nat.mul_comm _ B]; exact Nat.lt_trans hr1B (Nat.mul_lt_mul_of_pos_left (limbs_lt y) B_pos)); have hy3 := (hy1.le hle).le hle3; have hn3 := hp3.nat; obtain ⟨A3, c3, rfl, hc3, hr3⟩ := id hn3; refine vr 1 ?_; refine vco_k [0, 1, 8, 9, 10] ?_; refine vc_sr ?_; refine vr 2 ?_; refine vco_call rfl rfl (Fn.frame (gs := [g]) (fun q hq => by simp only [List.mem_singleton] at hq; subst hq; rw [hg3]; simp) (guess_ok hn3 hy3 hn2 hr1l (by omega))) ?_; rintro v3 H4 ⟨⟨hp4, d0, rfl, hd0⟩, hs4⟩; have hg4 := (hs4 g (List.mem_singleton.2 rfl)).trans hg3
    have hle4 : Heap.le (rem H1 [g]) (rem H4 [g]) := by rw [hp4]; exact hle3
    refine vr 1 ?_; refine vco_k [0, 1, 8, 9, 10, 11] ?_; refine vc_cut1 (fun (d : Nat) => put (put (put (put (put (put (emp) 0 (.val (.slice A (limbs x).length c))) 1 (.val (.slice A' (limbs y).length c'))) 8 (.val (.slice (some ⟨g, 0, none⟩) (limbs x).length (limbs x).length))) 9 (.val (.slice A3 (limbs r1).length c3))) 10 (.val (.int .i64 ((k : Int) - 1)))) 11 (.val (.int .u64 (d : Int)))) (fun (d : Nat) H' => Heap.le (rem H3 [g]) (rem H' [g]) ∧ H' g = some (uent l (limbs x).length) ∧ d ≤ 999999999 ∧ y * d ≤ r1) ?_ ?_
    ·
     refine vc_block ?_; refine vc_loop1 (fun (d : Nat) => d) (fun (d : Nat) => put (put (put (put (put (put (emp) 0 (.val (.slice A (limbs x).length c))) 1 (.val (.slice A' (limbs y).length c'))) 8 (.val (.slice (some ⟨g, 0, none⟩) (limbs x).length (limbs x).length))) 9 (.val (.slice A3 (limbs r1).length c3))) 10 (.val (.int .i64 ((k : Int) - 1)))) 11 (.val (.int .u64 (d : Int)))) (fun (d : Nat) H' => Heap.le (rem H3 [g]) (rem H' [g]) ∧ H' g = some (uent l (limbs x).length) ∧ d ≤ 999999999) d0 (⟨by rw [hp4]; exact .refl _, hg4, hd0⟩) sub_auto ?_; rintro d H5 ⟨hle5, hg5, hd5⟩; have hy5 := hy3.le hle5; have hn5 := hn3.le hle5; refine vc_seq ?_
     rcases Nat.eq_zero_or_pos d with hd0 | hd0
     ·
      subst hd0; refine vc_sr ?_; refine vr 1 ?_; refine vco_cmp false rfl rfl (cgt_f (by omega)) ?_; refine vr 9 ?_; refine vco_k [0, 1, 8, 9, 10, 11, 64] ?_; refine vc_cond_f rfl ?_; refine vc_exit ?_; exact ⟨0, sub_auto, hle5, hg5, by omega, by omega⟩
     ·
      have hld : (limbs d).length ≤ 3 := limbs_len_le.2 (by rw [B_eq]; omega); refine vc_sr ?_; refine vr 1 ?_; refine vco_cmp true rfl rfl (cgt_t (by omega)) ?_; refine vr 3 ?_; refine vco_call rfl rfl (Fn.frame (gs := [g]) (fun q hq => by simp only [List.mem_singleton] at hq; subst hq; rw [hg5]; simp) (limbs_ok (x := d) (by omega))) ?_; rintro v4 Ha ⟨hpa, hsa⟩; have hga := (hsa g (List.mem_singleton.2 rfl)).trans hg5; refine vco_call rfl rfl (Fn.frame (gs := [g]) (fun q hq => by simp only [List.mem_singleton] at hq; subst hq; rw [hga]; simp) (natMul_ok (hy5.le hpa.le) hpa.nat (by omega) (by omega))) ?_; rintro v5 Hb ⟨hpb, hsb⟩; have hgb2 := (hsb g (List.mem_singleton.2 rfl)).trans hga; have hml := len_mul y d; refine vr 1 ?_; refine vco_call rfl rfl (Fn.frame (gs := [g]) (fun q hq => by simp only [List.mem_singleton] at hq; subst hq; rw [hgb2]; simp) (natCmp_ok hpb.nat ((hn5.le hpa.le).le hpb.le) (by omega))) ?_; rintro v6 Hc ⟨⟨hec, rfl⟩, hsc⟩; have hgm := (hsc g (List.mem_singleton.2 rfl)).trans hgb2
      have hlem : Heap.le (rem H3 [g]) (rem Hc [g]) := by rw [hec]; exact (hle5.trans hpa.le).trans hpb.le
      refine vr 2 ?_; refine vco_k [0, 1, 8, 9, 10, 11, 64] ?_; refine vc_cond rfl (fun hb => ?_) (fun hb => ?_)
      ·
       have hb : r1 < y * d := cmpN_pos.1 (by simpa using hb); refine vc_skip ?_; refine vc_keep [0, 1, 8, 9, 10, 11] rfl ?_; refine vc_block ?_; refine vc_region rfl ?_; refine vr 1 ?_; refine vco_sub rfl rfl ⟨by omega, by omega⟩ ?_; refine vr 1 ?_; refine vco_end ?_; exact ⟨d - 1, by omega, sub_auto, hlem, hgm, by omega⟩
      ·
       have hb : y * d ≤ r1 := by
        have : ¬ 0 < cmpN (y * d) r1 := by simpa using hb
        rw [cmpN_pos] at this; omega
       refine vc_exit ?_; exact ⟨d, sub_auto, hlem, hgm, hd5, hb⟩
    ·
     rintro d H6 ⟨hle6, hg6, hd6, hyd⟩; have hy6 := hy3.le hle6; have hn6 := hn3.le hle6; have hld : (limbs d).length ≤ 3 := limbs_len_le.2 (by rw [B_eq]; omega); refine vc_sr ?_; refine vr 3 ?_; refine vco_call rfl rfl (Fn.frame (gs := [g]) (fun q hq => by simp only [List.mem_singleton] at hq; subst hq; rw [hg6]; simp) (limbs_ok (x := d) (by omega))) ?_; rintro v4 Ha ⟨hpa, hsa⟩; have hga := (hsa g (List.mem_singleton.2 rfl)).trans hg6; refine vco_call rfl rfl (Fn.frame (gs := [g]) (fun q hq => by simp only [List.mem_singleton] at hq; subst hq; rw [hga]; simp) (natMul_ok (hy6.le hpa.le) hpa.nat (by omega) (by omega))) ?_; rintro v5 Hb ⟨hpb, hsb⟩; have hgb2 := (hsb g (List.mem_singleton.2 rfl)).trans hga; refine vco_call rfl rfl (Fn.frame (gs := [g]) (fun q hq => by simp only [List.mem_singleton] at hq; subst hq; rw [hgb2]; simp) (natSub_ok ((hn6.le hpa.le).le hpb.le) hpb.nat hyd (by omega))) ?_; rintro v6 Hc ⟨hpc, hsc⟩; have hgc := (hsc g (List.mem_singleton.2 rfl)).trans hgb2; have hlec := ((hle6.trans hpa.le).trans hpb.le).trans hpc.le; refine vr 1 ?_; refine vco_k [0, 1, 8, 9, 10, 11] ?_; refine vc_seq ?_; refine vc_block ?_; refine vc_loop3 (fun (d2 : Nat) (rv2 : Value) (r2 : Nat) => r2) (fun (d2 : Nat) (rv2 : Value) (r2 : Nat) => put (put (put (put (put (put (emp) 0 (.val (.slice A (limbs x).length c))) 1 (.val (.slice A' (limbs y).length c'))) 8 (.val (.slice (some ⟨g, 0, none⟩) (limbs x).length (limbs x).length))) 9 (.val (rv2))) 10 (.val (.int .i64 ((k : Int) - 1)))) 11 (.val (.int .u64 (d2 : Int)))) (fun (d2 : Nat) (rv2 : Value) (r2 : Nat) H' => Heap.le (rem H3 [g]) (rem H' [g]) ∧ H' g = some (uent l (limbs x).length) ∧ NatV (rem H' [g]) rv2 r2 ∧ r1 = y * d2 + r2) d _ (r1 - y * d) (⟨hlec, hgc, hpc.nat, by omega⟩) sub_auto ?_
     rintro d2 rv2 r2 H6b ⟨hle8, hg8, hn8, he8⟩; obtain ⟨A8, c8, rfl, hc8, hr8⟩ := id hn8; have hy8 := hy3.le hle8; have hl8 := limbs_len_mono (show r2 ≤ r1 by omega)
     have hd2B : d2 < 1000000000 := by
      false_or_by_contra
      have : y * 1000000000 ≤ y * d2 := Nat.mul_le_mul_left _ (by omega); rw [B_eq, Nat.mul_comm] at hr1B; omega
     refine vc_seq ?_; refine vc_sr ?_; refine vr 2 ?_; refine vco_call rfl rfl (Fn.frame (gs := [g]) (fun q hq => by simp only [List.mem_singleton] at hq; subst hq; rw [hg8]; simp) (natCmp_ok hn8 hy8 (by omega))) ?_; rintro v7 H9 ⟨⟨he9, rfl⟩, hs9⟩; have hg9 := (hs9 g (List.mem_singleton.2 rfl)).trans hg8
     have hle9 : Heap.le (rem H3 [g]) (rem H9 [g]) := by rw [he9]; exact hle8
     have hn9 : NatV (rem H9 [g]) (.slice A8 (limbs r2).length c8) r2 := by rw [he9]; exact hn8
     refine vr 1 ?_; refine vco_k [0, 1, 8, 9, 10, 11, 76] ?_; refine vc_cond rfl (fun hb => ?_) (fun hb => ?_)
     ·
      have hb : y ≤ r2 := cmpN_ge0.1 (by simpa using hb); refine vc_skip ?_; refine vc_keep [0, 1, 8, 9, 10, 11] rfl ?_; refine vc_block ?_; refine vc_sr ?_; refine vr 2 ?_; refine vco_call rfl rfl (Fn.frame (gs := [g]) (fun q hq => by simp only [List.mem_singleton] at hq; subst hq; rw [hg9]; simp) (natSub_ok hn9 (hy3.le hle9) hb (by omega))) ?_; rintro v8 H10 ⟨hp10, hs10⟩; have hg10 := (hs10 g (List.mem_singleton.2 rfl)).trans hg9; refine vr 1 ?_; refine vco_k [0, 1, 8, 9, 10, 11] ?_; refine vc_region rfl ?_; refine vr 1 ?_; refine vco_add rfl rfl ⟨by omega, by omega⟩ ?_; refine vr 1 ?_; refine vco_end ?_; exact ⟨d2 + 1, _, r2 - y, by omega, sub_auto, hle9.trans hp10.le, hg10, hp10.nat, by rw [Nat.mul_add, Nat.mul_one]; omega⟩
     ·
      have hr3y : r2 < y := by
       have : ¬ 0 ≤ cmpN r2 y := by simp at hb; omega
       rw [cmpN_ge0] at this; omega
      obtain ⟨r3, rfl⟩ : ∃ r3, r3 = r2 := ⟨_, rfl⟩; obtain ⟨d3, rfl⟩ : ∃ d3, d3 = d2 := ⟨_, rfl⟩; refine vc_exit ?_; refine vc_keep [0, 1, 8, 9, 10, 11] rfl ?_; refine vc_region rfl ?_; refine vr 3 ?_; refine vco_conv tbOk rfl rfl rfl ⟨by omega, by omega⟩ ?_; obtain ⟨ti, hti, htz⟩ := sz76; refine vco_set (.inl rfl) tbOk rfl rfl rfl (by omega) (by omega) (hg9) rfl (by rw [uent_len]; omega) hti htz (fun _ => rfl) rfl rfl rfl fun _ => ?_; refine vco_end ?_
      have hset : ins H9 g { uent l (limbs x).length with xs := splice (uent l (limbs x).length).xs (0 + ((k : Int) - 1).toNat * 1) [.int .u32 (d3 : Int)] } = ins H9 g (uent (l.set (k - 1) d3) (limbs x).length) := by
       rw [hki]; simp only [uent, splice, Nat.zero_add, Nat.mul_one, U_set]
      have hle7 : Heap.le H (rem (ins H9 g { uent l (limbs x).length with xs := splice (uent l (limbs x).length).xs (0 + ((k : Int) - 1).toNat * 1) [.int .u32 (d3 : Int)] }) [g]) := by
       rw [rem_ins_in _ (List.mem_singleton.2 rfl)]; exact (hle.trans hle3).trans hle9
      have hr7 := hn9; refine vc_keep [0, 1, 8, 9, 10] rfl ?_; refine vc_region rfl ?_; refine vr 1 ?_; refine vco_sub rfl rfl ⟨by omega, by omega⟩ ?_; refine vr 1 ?_; refine vco_end ?_; refine ⟨k - 1, _, r3, l.set (k - 1) d3, by omega, sub_auto, hle7, by rw [hset, ins_same], by simp [hll], hlt.set (by rw [B_eq]; omega), by omega, hr3y, by rw [hset, rem_ins_in _ (List.mem_singleton.2 rfl)]; exact hr7, ?_⟩; rw [val_drop_cons hai, show k - 1 + 1 = k by omega, val_drop_cons (l := l.set (k - 1) d3) (List.getElem?_set_self (by omega)), show k - 1 + 1 = k by omega, List.drop_set_of_lt (by omega), hv]
      have h1 : B * (val (List.drop k l) * y + r) = B * val (List.drop k l) * y + B * r := by rw [Nat.mul_add, Nat.mul_assoc]
      have h2 : (d3 + B * val (List.drop k l)) * y = y * d3 + B * val (List.drop k l) * y := by rw [Nat.add_mul, Nat.mul_comm d3]
      rw [h1, h2]; omega
   ·
    have hb : k = 0 := by simp at hb; omega
    subst hb; rw [List.drop_zero, List.drop_zero, val_limbs] at hv
    have hqv : val l = x / y := by rw [hv, Nat.add_comm, Nat.add_mul_div_right _ _ hy0, Nat.div_eq_of_lt hry, Nat.zero_add]
    have hrm : r = x % y := by rw [hv, Nat.add_comm, Nat.add_mul_mod_self_right, Nat.mod_eq_of_lt hry]
    refine vc_exit ?_; refine vc_keep [8, 9] rfl ?_; refine vc_sr ?_; refine vr 1 ?_; refine vco_call rfl rfl (cut_ok (l := l) ⟨some ⟨g, 0, none⟩, _, by rw [hll], by omega, fun i v hv => ⟨_, rfl, by simp [cell, addr0, hgq, uent, hv]⟩⟩ hlt (by omega)) ?_; rintro v9 H11 hp11; refine vr 3 ?_; refine vco_k [4, 5] ?_; refine vc_ret ⟨.inr rfl, _, .tmp rfl (.tmp rfl (.nil)), ?_⟩; exact ⟨(hle.trans (rem_le _ _)).trans hp11.le, _, _, rfl, by rw [← hqv]; exact hp11.nat, by rw [← hrm]; exact (hrv.le (rem_le _ _)).le hp11.le⟩
end Go.Eng
/- Walks over package amortcostref1, part 6: gcd, build, the rational numbers. -/
namespace Go.Eng
open Go.Proofs Num
theorem szQ_frac (f : Bool) (n d : Nat) (k : Nat) (hn : (limbs n).length ≤ k) (hd : (limbs d).length ≤ k) : szQ (frac f n d) ≤ k + 1 ∧ (0 < d → szQ (frac f n d) ≤ k) := by
  rcases Nat.eq_zero_or_pos d with e | e
  · subst e
    rw [frac_den0]
    refine ⟨?_, fun h => by omega⟩
    have : szQ 0 = 1 := by
      unfold szQ
      show max (limbs 0).length (limbs 1).length = 1
      rw [limbs_zero, limbs_one]; rfl
    omega
  · have h1 := limbs_len_mono (Nat.div_le_self n (Nat.gcd n d))
    have h2 := limbs_len_mono (Nat.div_le_self d (Nat.gcd n d))
    have : szQ (frac f n d) ≤ k := by
      unfold szQ
      rw [frac_abs e, frac_den e]; omega
    exact ⟨by omega, fun _ => this⟩
theorem RawV.size {H : Heap} {v : Value} {q : Rat} {N : Nat} (h : RawV H v q N) : szQ q ≤ N + 2 := by
  obtain ⟨f, u, w, l1, l2, _, _, _, h1, h2, h3, h4, rfl⟩ := h
  have k1 := len_val32 h1
  have k2 := len_val32 h2
  exact (szQ_frac f _ _ (N + 1) (by omega) (by omega)).1
theorem canV_zero {H : Heap} {w : Value} (hw : NatV H w 1) : CanV H (.agg #[.bool false, .slice none 0 0, w]) 0 := ⟨_, _, rfl, natV_zero H, hw⟩
theorem canV_frac {H : Heap} {f : Bool} {u w : Value} {n d : Nat} (hn : 0 < n) (hd : 0 < d) (hu : NatV H u (n / Nat.gcd n d)) (hw : NatV H w (d / Nat.gcd n d)) : CanV H (.agg #[.bool f, u, w]) (frac f n d) := by
  refine ⟨u, w, ?_, by rw [frac_abs hd]; exact hu, by rw [frac_den hd]; exact hw⟩
  rw [frac_sign hd hn]
theorem cmp_sub (p q : Rat) : sgnQ (p - q) = cmpQ p q := by
  unfold sgnQ cmpQ
  by_cases h : p < q
  · rw [if_pos (by grind), if_pos h]
  · rw [if_neg (by grind), if_neg h]
    by_cases e : p = q
    · rw [if_pos (by grind), if_pos e]
    · rw [if_neg (by grind), if_neg e]
theorem NatV.l32 {H : Heap} {v : Value} {x : Nat} (h : NatV H v x) : LimV H v (limbs x) := h
theorem natGcd_ok {H : Heap} {u v : Value} {x y : Nat} (hx : NatV H u x) (hy : NatV H v y) (hm : ((limbs x).length : Int) < 4398046511104) (hm' : ((limbs y).length : Int) < 4398046511104) :
  Fn Tryz.prog 82 #[u, v] H (RetN H (Nat.gcd x y)) := by
 refine fn_intro (args := [_, _]) Tryz.func82 rfl rfl Tryz.ntmps82 rfl rfl fun w0 => ?_; refine vc_keep [0, 1] rfl ?_; refine vc_sr ?_; refine vr 1 ?_; refine vco_k [0, 1] ?_; refine vc_seq ?_; refine vc_block ?_; refine vc_loop4 (fun (u : Value) (a : Nat) (v : Value) (b : Nat) => b) (fun (u : Value) (a : Nat) (v : Value) (b : Nat) => put (put (emp) 0 (.val (u))) 1 (.val (v))) (fun (u : Value) (a : Nat) (v : Value) (b : Nat) H' => Heap.le H H' ∧ NatV H' u a ∧ NatV H' v b ∧ ((limbs a).length : Int) < 4398046511104 ∧ ((limbs b).length : Int) < 4398046511104 ∧ Nat.gcd a b = Nat.gcd x y) _ x _ y (⟨.refl _, hx, hy, hm, hm', rfl⟩) sub_auto ?_; rintro u a v b H1 ⟨hle, ha, hbv, hla, hlb, hg⟩; obtain ⟨Aha, cha, rfl, hcha, hrha⟩ := id ha; obtain ⟨Ahbv, chbv, rfl, hchbv, hrhbv⟩ := id hbv; refine vc_seq ?_; refine vc_sr ?_; refine vr 3 ?_; refine vco_k [0, 1, 9] ?_; refine vc_cond rfl (fun hb => ?_) (fun hb => ?_)
 ·
  have hb : 0 < b := Nat.pos_of_ne_zero fun e => by rw [limbs_len_zero.2 e] at hb; simp at hb
  refine vc_skip ?_; refine vc_keep [0, 1] rfl ?_; refine vc_block ?_; refine vc_sr ?_; refine vr 2 ?_; refine vco_call rfl rfl (natDiv_ok ha hbv hb hla hlb) ?_; rintro v2 H2 ⟨hl2, q2, r2, rfl, hq2, hr2⟩; refine vr 5 ?_; refine vco_k [1, 6] ?_; refine vc_region rfl ?_; refine vr 4 ?_; refine vco_end ?_; have hlr := limbs_len_mono (Nat.le_of_lt (Nat.mod_lt a hb)); exact ⟨_, b, _, a % b, Nat.mod_lt a hb, sub_auto, hle.trans hl2, hbv.le hl2, hr2, hlb, by omega, by rw [← hg, Nat.gcd_comm b, ← Nat.gcd_rec, Nat.gcd_comm]⟩
 ·
  have hb : b = 0 := limbs_len_zero.1 (by have := of_decide_eq_false hb; omega); subst hb; rw [Nat.gcd_zero_right] at hg; subst hg; refine vc_exit ?_; refine vc_keep [0] rfl ?_; refine vc_sr ?_; refine vr 2 ?_; refine vco_k [4] ?_; refine vc_ret ⟨.inr rfl, _, .tmp rfl (.nil), ?_⟩; exact ⟨hle, ha⟩
theorem build_ok {H : Heap} {u v : Value} {f : Bool} {l1 l2 : List Nat} (hu : LimV H u l1) (hv : LimV H v l2) (h1 : ∀ x, x ∈ l1 → x < 4294967296) (h2 : ∀ x, x ∈ l2 → x < 4294967296) (hm : (l1.length : Int) ≤ 4398046511000) (hm' : (l2.length : Int) ≤ 4398046511000) :
  Fn Tryz.prog 52 #[.bool f, u, v] H (RetQ H (frac f (val l1) (val l2))) := by
 have k1 := len_val32 h1
 have k2 := len_val32 h2
 obtain ⟨Ahu, chu, rfl, hchu, hrhu⟩ := id hu
 obtain ⟨Ahv, chv, rfl, hchv, hrhv⟩ := id hv; refine fn_intro (args := [_, _, _]) Tryz.func52 rfl rfl Tryz.ntmps52 rfl rfl fun w0 => ?_; refine vc_keep [0, 1, 2] rfl ?_; refine vc_sr ?_; refine vco_alloc el36 rfl ?_; refine vco_k [0, 1, 2, 6] ?_; refine vc_sr ?_; refine vr 1 ?_; refine vco_call rfl rfl (rnat_ok hu h1 (by omega)) ?_; rintro v1 H1 hp1; refine vr 1 ?_; refine vco_call rfl rfl (rnat_ok (hv.le hp1.le) h2 (by omega)) ?_; rintro v2 H2 hp2; obtain ⟨n, hn⟩ : ∃ n, n = val l1 := ⟨_, rfl⟩; obtain ⟨d, hd⟩ : ∃ d, d = val l2 := ⟨_, rfl⟩; rw [← hn] at hp1 k1; rw [← hd] at hp2 k2; have hn1 := hp1.nat.le hp2.le; have hn2 := hp2.nat; obtain ⟨Ahn1, chn1, rfl, hchn1, hrhn1⟩ := id hn1; obtain ⟨Ahn2, chn2, rfl, hchn2, hrhn2⟩ := id hn2; have hle := hp1.le.trans hp2.le; rw [← hn, ← hd]; refine vr 2 ?_; refine vco_k [0, 1, 2, 6] ?_; refine vc_seq ?_
 rcases Nat.eq_zero_or_pos n with hn0 | hn0
 ·
  have hl0 := limbs_len_zero.2 hn0; refine vc_sr ?_; refine vr 2 ?_; refine vco_cmp true rfl rfl (ceq_t (by omega)) ?_; refine vr 5 ?_; refine vco_k [0, 1, 2, 6, 19] ?_; refine vc_cond_t rfl ?_; refine vc_sr ?_; refine vco_build Tryz.underlying34 el76 rfl rfl rfl rfl rfl rfl rfl ?_; intro gb hgb; refine vco_st tbOk rfl el36 rfl rfl ?_; obtain ⟨ti, hti, htz⟩ := sz36; refine vco_bstore (.inl ⟨rfl, rfl⟩) rfl rfl rfl hti htz rfl rfl rfl ?_; refine vco_k [6] ?_; obtain ⟨ri0, rhi0, rhz0⟩ := sz36; refine vc_ret ⟨.inr rfl, _, .agg rfl Tryz.underlying36 rhi0 rhz0 (.nil), ?_⟩; exact ⟨hle.trans (Heap.le_ins _ hgb), by rw [hn0, frac_num0]; exact canV_zero natV_one⟩
 ·
  have hl0 : (limbs n).length ≠ 0 := fun e => by rw [limbs_len_zero] at e; omega
  rcases Nat.eq_zero_or_pos d with hd0 | hd0
  ·
   have hl0 := limbs_len_zero.2 hd0; refine vc_sr ?_; refine vr 2 ?_; refine vco_cmp false rfl rfl (ceq_f (by omega)) ?_; refine vr 3 ?_; refine vco_cmp true rfl rfl (ceq_t (by omega)) ?_; refine vr 1 ?_; refine vco_k [0, 1, 2, 6, 19] ?_; refine vc_cond_t rfl ?_; refine vc_sr ?_; refine vco_build Tryz.underlying34 el76 rfl rfl rfl rfl rfl rfl rfl ?_; intro gb hgb; refine vco_st tbOk rfl el36 rfl rfl ?_; obtain ⟨ti, hti, htz⟩ := sz36; refine vco_bstore (.inl ⟨rfl, rfl⟩) rfl rfl rfl hti htz rfl rfl rfl ?_; refine vco_k [6] ?_; obtain ⟨ri0, rhi0, rhz0⟩ := sz36; refine vc_ret ⟨.inr rfl, _, .agg rfl Tryz.underlying36 rhi0 rhz0 (.nil), ?_⟩; exact ⟨hle.trans (Heap.le_ins _ hgb), by rw [hd0, frac_den0]; exact canV_zero natV_one⟩
  ·
   have hl1 : (limbs d).length ≠ 0 := fun e => by rw [limbs_len_zero] at e; omega
   refine vc_sr ?_; refine vr 2 ?_; refine vco_cmp false rfl rfl (ceq_f (by omega)) ?_; refine vr 3 ?_; refine vco_cmp false rfl rfl (ceq_f (by omega)) ?_; refine vr 1 ?_; refine vco_k [0, 1, 2, 6, 19] ?_; refine vc_cond_f rfl ?_; refine vc_skip ?_; refine vc_keep [0, 1, 2, 6] rfl ?_; refine vc_sr ?_; refine vr 2 ?_; refine vco_call rfl rfl (natGcd_ok hn1 hn2 (by omega) (by omega)) ?_; rintro v3 H3 hp3; obtain ⟨g, hg⟩ : ∃ g, g = Nat.gcd n d := ⟨_, rfl⟩; rw [← hg] at hp3
   have hg0 : 0 < g := by rw [hg]; exact Nat.gcd_pos_of_pos_left _ hn0
   have hn3 := hp3.nat; have hgl := limbs_len_mono (show g ≤ n by rw [hg]; exact Nat.gcd_le_left _ hn0); have hn13 := hn1.le hp3.le; have hn23 := hn2.le hp3.le; obtain ⟨Ahn3, chn3, rfl, hchn3, hrhn3⟩ := id hn3; refine vr 1 ?_; refine vco_k [0, 1, 2, 6, 7] ?_; refine vc_cut2 (fun (u3 : Value) (v3 : Value) => put (put (put (put (emp) 0 (.val (.bool f))) 1 (.val (u3))) 2 (.val (v3))) 6 (.box [.bool false, .slice none 0 0, .slice none 0 0])) (fun (u3 : Value) (v3 : Value) H' => Heap.le H H' ∧ NatV H' u3 (n / g) ∧ NatV H' v3 (d / g)) ?_ ?_
   ·
    by_cases hl : (limbs g).length = 1
    ·
     obtain ⟨z, hz⟩ := List.length_eq_one_iff.1 hl
     have hzg : z = g := by have := val_limbs g; rw [hz] at this; simpa [val] using this
     have hgz : (limbs g)[0]? = some g := by rw [hz, hzg]; rfl
     refine vc_sr ?_; refine vr 2 ?_; refine vco_cmp false rfl rfl (cne_f (by omega)) ?_; refine vr 2 ?_; refine vco_at tbOk rfl rfl rfl rfl rfl (hrhn3) (U_get hgz) (by omega) (by omega) fun _ => ?_; refine vr 2 ?_; refine vco_k [0, 1, 2, 6, 7, 33] ?_; refine vc_cond rfl (fun hb => ?_) (fun hb => ?_)
     ·
      skip
      refine vc_sr ?_; refine vr 2 ?_; refine vco_call rfl rfl (natDiv_ok hn13 hn3 hg0 (by omega) (by omega)) ?_; rintro v4 H4 ⟨hl4, q4, r4, rfl, hq4, hr4⟩; refine vr 4 ?_; refine vco_k [0, 1, 2, 6, 7] ?_; refine vc_region rfl ?_; refine vr 2 ?_; refine vco_call rfl rfl (natDiv_ok (hn23.le hl4) (hn3.le hl4) hg0 (by omega) (by omega)) ?_; rintro v5 H5 ⟨hl5, q5, r5, rfl, hq5, hr5⟩; refine vr 4 ?_; refine vco_end ?_; exact ⟨_, _, sub_auto, (hle.trans hp3.le).trans (hl4.trans hl5), hq4.le hl5, hq5⟩
     ·
      have hg1 : g = 1 := by simp at hb; omega
      refine vc_skip ?_; exact ⟨_, _, sub_auto, hle.trans hp3.le, by rw [hg1, Nat.div_one]; exact hn13, by rw [hg1, Nat.div_one]; exact hn23⟩
    ·
     skip
     refine vc_sr ?_; refine vr 2 ?_; refine vco_cmp true rfl rfl (cne_t (by omega)) ?_; refine vr 6 ?_; refine vco_k [0, 1, 2, 6, 7, 33] ?_; refine vc_cond_t rfl ?_; refine vc_sr ?_; refine vr 2 ?_; refine vco_call rfl rfl (natDiv_ok hn13 hn3 hg0 (by omega) (by omega)) ?_; rintro v4 H4 ⟨hl4, q4, r4, rfl, hq4, hr4⟩; refine vr 4 ?_; refine vco_k [0, 1, 2, 6, 7] ?_; refine vc_region rfl ?_; refine vr 2 ?_; refine vco_call rfl rfl (natDiv_ok (hn23.le hl4) (hn3.le hl4) hg0 (by omega) (by omega)) ?_; rintro v5 H5 ⟨hl5, q5, r5, rfl, hq5, hr5⟩; refine vr 4 ?_; refine vco_end ?_; exact ⟨_, _, sub_auto, (hle.trans hp3.le).trans (hl4.trans hl5), hq4.le hl5, hq5⟩
   ·
    rintro u3 v3 H6 ⟨hle6, hu6, hv6⟩; obtain ⟨Ahu6, chu6, rfl, hchu6, hrhu6⟩ := id hu6; obtain ⟨Ahv6, chv6, rfl, hchv6, hrhv6⟩ := id hv6; refine vc_sr ?_; refine vr 3 ?_; refine vco_st tbOk rfl el36 rfl rfl ?_; obtain ⟨ti, hti, htz⟩ := sz36; refine vco_bstore (.inl ⟨rfl, rfl⟩) rfl rfl rfl hti htz rfl rfl rfl ?_; refine vco_k [6] ?_; obtain ⟨ri0, rhi0, rhz0⟩ := sz36; refine vc_ret ⟨.inr rfl, _, .agg rfl Tryz.underlying36 rhi0 rhz0 (.nil), ?_⟩; exact ⟨hle6, canV_frac hn0 hd0 (by rw [← hg]; exact hu6) (by rw [← hg]; exact hv6)⟩
theorem rFromInt_ok {H : Heap} {n : Int} (h1 : -9223372036854775808 ≤ n) (h2 : n ≤ 9223372036854775807) :
  Fn Tryz.prog 25 #[.int .i64 n] H (RetQ H (n : Rat)) := by
 have hl3 : (limbs n.natAbs).length ≤ 3 := limbs_len_le.2 (by rw [B_eq]; omega)
 have hfi := frac_int n
 have h11 : val (limbs 1) = 1 := val_limbs 1
 have hl1 : (limbs 1).length = 1 := by rw [limbs_one]; rfl
 refine fn_intro (args := [_]) Tryz.func25 rfl rfl Tryz.ntmps25 rfl rfl fun w0 => ?_; refine vc_keep [0] rfl ?_; refine vc_sr ?_; refine vco_alloc el36 rfl ?_; refine vco_k [0, 2] ?_; refine vc_seq ?_; refine vc_sr ?_; refine vr 2 ?_; refine vco_k [0, 2, 4] ?_; refine vc_cond rfl (fun hb => ?_) (fun hb => ?_)
 ·
  have hb : n < 0 := by simpa using hb
  rw [decide_eq_true hb] at hfi; refine vc_sr ?_; refine vr 1 ?_; refine vco_add rfl rfl ⟨by omega, by omega⟩ ?_; refine vco_neg rfl ⟨by omega, by omega⟩ ?_; refine vco_conv tbOk rfl rfl rfl ⟨by omega, by omega⟩ ?_; refine vco_add rfl rfl ⟨by omega, by omega⟩ ?_; rw [show -(n + 1) + 1 = ((n.natAbs : Nat) : Int) by omega]; refine vco_call rfl rfl (limbs_ok (by omega)) ?_; rintro v1 H1 hp1; refine vco_build Tryz.underlying34 el76 rfl rfl rfl rfl rfl rfl rfl ?_; intro gb hgb; refine vco_call rfl rfl (build_ok (hp1.nat.le (Heap.le_ins _ hgb)) (natV_one).l32 lt32 lt32 (by omega) (by omega)) ?_; rintro w2 G2 ⟨hlg2, hq2⟩; rw [val_limbs, h11, hfi] at hq2; obtain ⟨u2, x2, rfl, hu2, hx2⟩ := id hq2; obtain ⟨Ahu2, chu2, rfl, hchu2, hrhu2⟩ := id hu2; obtain ⟨Ahx2, chx2, rfl, hchx2, hrhx2⟩ := id hx2; obtain ⟨ti, hti, htz⟩ := sz36; refine vco_bstore (.inl ⟨rfl, rfl⟩) rfl rfl rfl hti htz rfl rfl rfl ?_; refine vco_k [2] ?_; obtain ⟨ri0, rhi0, rhz0⟩ := sz36; refine vc_ret ⟨.inr rfl, _, .agg rfl Tryz.underlying36 rhi0 rhz0 (.nil), ?_⟩; exact ⟨(hp1.le.trans (Heap.le_ins _ hgb)).trans hlg2, hq2⟩
 ·
  have hb : ¬ n < 0 := by simpa using hb
  rw [decide_eq_false hb] at hfi; obtain ⟨m, rfl⟩ : ∃ m : Nat, n = (m : Int) := ⟨n.natAbs, by omega⟩; rw [Int.natAbs_natCast] at hfi hl3; refine vc_skip ?_; refine vc_keep [0, 2] rfl ?_; refine vc_sr ?_; refine vr 1 ?_; refine vco_conv tbOk rfl rfl rfl ⟨by omega, by omega⟩ ?_; refine vco_call rfl rfl (limbs_ok (x := m) (by omega)) ?_; rintro v1 H1 hp1; refine vco_build Tryz.underlying34 el76 rfl rfl rfl rfl rfl rfl rfl ?_; intro gb hgb; refine vco_call rfl rfl (build_ok (hp1.nat.le (Heap.le_ins _ hgb)) (natV_one).l32 lt32 lt32 (by omega) (by omega)) ?_; rintro w2 G2 ⟨hlg2, hq2⟩; rw [val_limbs, h11, hfi] at hq2; obtain ⟨u2, x2, rfl, hu2, hx2⟩ := id hq2; obtain ⟨Ahu2, chu2, rfl, hchu2, hrhu2⟩ := id hu2; obtain ⟨Ahx2, chx2, rfl, hchx2, hrhx2⟩ := id hx2; obtain ⟨ti, hti, htz⟩ := sz36; refine vco_bstore (.inl ⟨rfl, rfl⟩) rfl rfl rfl hti htz rfl rfl rfl ?_; refine vco_k [2] ?_; obtain ⟨ri0, rhi0, rhz0⟩ := sz36; refine vc_ret ⟨.inr rfl, _, .agg rfl Tryz.underlying36 rhi0 rhz0 (.nil), ?_⟩; exact ⟨(hp1.le.trans (Heap.le_ins _ hgb)).trans hlg2, hq2⟩
theorem rCanonical_ok {H : Heap} {v : Value} {q : Rat} {N : Nat} (hv : RawV H v q N) (hN : (N : Int) ≤ 4398046511000) :
  Fn Tryz.prog 67 #[v] H (RetQ H q) := by
 obtain ⟨bf, bu, bw, bl1, bl2, rfl, hb1, hb2, hb3, hb4, hb5, hb6, rfl⟩ := id hv; refine fn_intro (args := [_]) Tryz.func67 rfl rfl Tryz.ntmps67 rfl rfl fun w0 => ?_; refine vc_keep [0] rfl ?_; refine vc_sr ?_; refine vco_box rfl rfl ?_; refine vco_alloc el36 rfl ?_; refine vco_k [1, 2] ?_; refine vc_sr ?_; refine vr 6 ?_; refine vco_call rfl rfl (build_ok hb1 hb2 hb3 hb4 (by omega) (by omega)) ?_; rintro w2 G2 ⟨hlg2, hq2⟩; obtain ⟨u2, x2, rfl, hu2, hx2⟩ := id hq2; obtain ⟨Ahu2, chu2, rfl, hchu2, hrhu2⟩ := id hu2; obtain ⟨Ahx2, chx2, rfl, hchx2, hrhx2⟩ := id hx2; obtain ⟨ti, hti, htz⟩ := sz36; refine vco_bstore (.inl ⟨rfl, rfl⟩) rfl rfl rfl hti htz rfl rfl rfl ?_; refine vco_k [2] ?_; obtain ⟨ri0, rhi0, rhz0⟩ := sz36; refine vc_ret ⟨.inr rfl, _, .agg rfl Tryz.underlying36 rhi0 rhz0 (.nil), ?_⟩; exact ⟨hlg2, hq2⟩
theorem rSign_ok {H : Heap} {v : Value} {q : Rat} {N : Nat} (hv : RawV H v q N) (hN : (N : Int) ≤ 4398046511000) :
  Fn Tryz.prog 38 #[v] H (fun v H' => Heap.le H H' ∧ v = .int .i64 (sgnQ q)) := by
 obtain ⟨bf, bu, bw, bl1, bl2, rfl, _⟩ := id hv
 have hsg := sgn_num q; refine fn_intro (args := [_]) Tryz.func38 rfl rfl Tryz.ntmps38 rfl rfl fun w0 => ?_; refine vc_keep [0] rfl ?_; refine vc_sr ?_; refine vco_box rfl rfl ?_; refine vr 1 ?_; refine vco_k [1] ?_; refine vc_sr ?_; refine vr 1 ?_; refine vco_call rfl rfl (rCanonical_ok hv hN) ?_; rintro w2 G2 ⟨hlg2, hq2⟩; obtain ⟨u2, x2, rfl, hu2, hx2⟩ := id hq2; obtain ⟨Ahu2, chu2, rfl, hchu2, hrhu2⟩ := id hu2; obtain ⟨Ahx2, chx2, rfl, hchx2, hrhx2⟩ := id hx2; obtain ⟨ti, hti, htz⟩ := sz36; refine vco_bstore (.inl ⟨rfl, rfl⟩) rfl rfl rfl hti htz rfl rfl rfl ?_; refine vco_k [1] ?_; refine vc_seq ?_; refine vc_block ?_; refine vc_sr ?_; refine vr 5 ?_; refine vco_k [1, 5] ?_; refine vc_cond rfl (fun hb => ?_) (fun hb => ?_)
 ·
  have hb : q.num.natAbs = 0 := limbs_len_zero.1 (by have := eq_of_beq hb; omega); rw [if_pos hb] at hsg; refine vc_sr ?_; refine vr 1 ?_; refine vco_k [2] ?_; refine vc_ret ⟨.inr rfl, _, .tmp rfl (.nil), ?_⟩; exact ⟨hlg2, by rw [hsg]; rfl⟩
 ·
  have hb : q.num.natAbs ≠ 0 := fun e => by rw [limbs_len_zero.2 e] at hb; simp at hb
  rw [if_neg hb] at hsg; refine vc_sr ?_; refine vr 3 ?_; refine vco_k [10] ?_; refine vc_cond rfl (fun hb => ?_) (fun hb => ?_)
  ·
   rw [hb] at hsg; refine vc_sr ?_; refine vr 1 ?_; refine vco_k [2] ?_; refine vc_ret ⟨.inr rfl, _, .tmp rfl (.nil), ?_⟩; exact ⟨hlg2, by rw [hsg]; rfl⟩
  ·
   rw [hb] at hsg; refine vc_skip ?_; refine vc_keep [] rfl ?_; refine vc_sr ?_; refine vr 1 ?_; refine vco_k [2] ?_; refine vc_ret ⟨.inr rfl, _, .tmp rfl (.nil), ?_⟩; exact ⟨hlg2, by rw [hsg]; rfl⟩
theorem rNeg_ok {H : Heap} {v : Value} {q : Rat} {N : Nat} (hv : RawV H v q N) (hN : (N : Int) ≤ 4398046511000) :
  Fn Tryz.prog 98 #[v] H (RetQ H (-q)) := by
 obtain ⟨bf, bu, bw, bl1, bl2, rfl, hb1, hb2, hb3, hb4, hb5, hb6, rfl⟩ := id hv; refine fn_intro (args := [_]) Tryz.func98 rfl rfl Tryz.ntmps98 rfl rfl fun w0 => ?_; refine vc_keep [0] rfl ?_; refine vc_sr ?_; refine vco_box rfl rfl ?_; refine vco_alloc el36 rfl ?_; refine vco_k [1, 2] ?_; refine vc_sr ?_; refine vr 7 ?_; refine vco_call rfl rfl (build_ok (f := !bf) hb1 hb2 hb3 hb4 (by omega) (by omega)) ?_; rintro w2 G2 ⟨hlg2, hq2⟩; rw [← frac_neg] at hq2; obtain ⟨u2, x2, rfl, hu2, hx2⟩ := id hq2; obtain ⟨Ahu2, chu2, rfl, hchu2, hrhu2⟩ := id hu2; obtain ⟨Ahx2, chx2, rfl, hchx2, hrhx2⟩ := id hx2; obtain ⟨ti, hti, htz⟩ := sz36; refine vco_bstore (.inl ⟨rfl, rfl⟩) rfl rfl rfl hti htz rfl rfl rfl ?_; refine vco_k [2] ?_; obtain ⟨ri0, rhi0, rhz0⟩ := sz36; refine vc_ret ⟨.inr rfl, _, .agg rfl Tryz.underlying36 rhi0 rhz0 (.nil), ?_⟩; exact ⟨hlg2, hq2⟩
theorem rAdd_ok {H : Heap} {v v2 : Value} {q q2 : Rat} {N : Nat} (hv : RawV H v q N) (hv2 : RawV H v2 q2 N) (hN : (N : Int) ≤ 1099511627780) :
  Fn Tryz.prog 64 #[v, v2] H (RetQ H (q + q2)) := by
 obtain ⟨bf, bu, bw, bl1, bl2, rfl, _⟩ := id hv
 obtain ⟨cf, cu, cw, cl1, cl2, rfl, _⟩ := id hv2
 have hq0 := hv.size
 have hq20 := hv2.size
 have hd1 := Nat.pos_of_ne_zero q.den_nz
 have hd2 := Nat.pos_of_ne_zero q2.den_nz
 have hfs1 := frac_self q
 have hfs2 := frac_self q2
 obtain ⟨f1, hf1⟩ : ∃ f1, f1 = decide (q.num < 0) := ⟨_, rfl⟩
 obtain ⟨f2, hf2⟩ : ∃ f2, f2 = decide (q2.num < 0) := ⟨_, rfl⟩
 obtain ⟨n1, hn1⟩ : ∃ n1, n1 = q.num.natAbs := ⟨_, rfl⟩
 obtain ⟨n2, hn2⟩ : ∃ n2, n2 = q2.num.natAbs := ⟨_, rfl⟩
 obtain ⟨d1, hd1'⟩ : ∃ d1, d1 = q.den := ⟨_, rfl⟩
 obtain ⟨d2, hd2'⟩ : ∃ d2, d2 = q2.den := ⟨_, rfl⟩
 have hz : (limbs n1).length ≤ N + 2 ∧ (limbs d1).length ≤ N + 2 ∧ (limbs n2).length ≤ N + 2 ∧ (limbs d2).length ≤ N + 2 := by
  unfold szQ at hq0 hq20
  rw [hn1, hn2, hd1', hd2']; omega
 rw [← hf1, ← hn1, ← hd1'] at hfs1
 rw [← hf2, ← hn2, ← hd2'] at hfs2
 rw [← hd1'] at hd1
 rw [← hd2'] at hd2
 have hm1 := len_mul n1 d2
 have hm2 := len_mul n2 d1
 have hm3 := len_mul d1 d2
 have hde := Nat.mul_pos hd1 hd2
 have hs1 := len_add (x := n1 * d2) (y := n2 * d1) (k := 2 * (N + 2)) (by omega) (by omega); refine fn_intro (args := [_, _]) Tryz.func64 rfl rfl Tryz.ntmps64 rfl rfl fun w0 => ?_; refine vc_keep [0, 1] rfl ?_; refine vc_sr ?_; refine vco_box rfl rfl ?_; refine vco_box rfl rfl ?_; refine vco_alloc el36 rfl ?_; refine vco_k [2, 3, 4] ?_; refine vc_sd .drawB [0, 2, 1, 3, 4, 5] follows (by kernel_rfl) ?_; refine vr 2 ?_; refine vco_callM rfl rfl (rCanonical_ok hv (by omega)) (fun _ _ h => by first | exact h.le | exact h.1) ?_; rintro w1 G1 ⟨hl1, hcan1⟩
 unfold CanV at hcan1
 rw [← hf1, ← hn1, ← hd1'] at hcan1; obtain ⟨un1, ud1, rfl, hun1, hud1⟩ := id hcan1; obtain ⟨Ahun1, chun1, rfl, hchun1, hrhun1⟩ := id hun1; obtain ⟨Ahud1, chud1, rfl, hchud1, hrhud1⟩ := id hud1; refine vco_callM rfl rfl (rCanonical_ok (hv2.le hl1) (by omega)) (fun _ _ h => by first | exact h.le | exact h.1) ?_; rintro w2 G2 ⟨hl2, hcan2⟩
 unfold CanV at hcan2
 rw [← hf2, ← hn2, ← hd2'] at hcan2; obtain ⟨un2, ud2, rfl, hun2, hud2⟩ := id hcan2; obtain ⟨Ahun2, chun2, rfl, hchun2, hrhun2⟩ := id hun2; obtain ⟨Ahud2, chud2, rfl, hchud2, hrhud2⟩ := id hud2; have hun1 := hun1.le hl2; have hud1 := hud1.le hl2; have hle := hl1.trans hl2; obtain ⟨ti, hti, htz⟩ := sz36; refine vco_bstore (.inl ⟨rfl, rfl⟩) rfl rfl rfl hti htz rfl rfl rfl ?_; obtain ⟨ti, hti, htz⟩ := sz36; refine vco_bstore (.inl ⟨rfl, rfl⟩) rfl rfl rfl hti htz rfl rfl rfl ?_; refine vco_k [2, 3, 4] ?_; refine vc_sd .drawB [0, 1, 2, 3, 5, 6, 7, 8, 4, 9, 10, 11] follows (by kernel_rfl) ?_; refine vr 8 ?_; refine vco_callM rfl rfl (natMul_ok hun1 hud2 (by omega) (by omega)) (fun _ _ h => by first | exact h.le | exact h.1) ?_; rintro v3 H3 hp3; refine vco_callM rfl rfl (natMul_ok (hun2.le hp3.le) (hud1.le hp3.le) (by omega) (by omega)) (fun _ _ h => by first | exact h.le | exact h.1) ?_; rintro v4 H4 hp4; refine vr 2 ?_; refine vco_k [2, 3, 4, 5, 6] ?_; refine vc_sr ?_; refine vr 4 ?_; refine vco_call rfl rfl (natMul_ok ((hud1.le hp3.le).le hp4.le) ((hud2.le hp3.le).le hp4.le) (by omega) (by omega)) ?_; rintro v5 H5 hp5; have hle5 := ((hle.trans hp3.le).trans hp4.le).trans hp5.le; have hx5 := (hp3.nat.le hp4.le).le hp5.le; have hy5 := hp4.nat.le hp5.le; have hz5 := hp5.nat; obtain ⟨Ahx5, chx5, rfl, hchx5, hrhx5⟩ := id hx5; obtain ⟨Ahy5, chy5, rfl, hchy5, hrhy5⟩ := id hy5; obtain ⟨Ahz5, chz5, rfl, hchz5, hrhz5⟩ := id hz5; refine vr 1 ?_
 refine vco_k [2, 3, 4, 5, 6, 7] ?_; refine vc_seq ?_; refine vc_sr ?_; refine vr 4 ?_; refine vco_eqb Tryz.underlying4 rfl rfl ?_; refine vco_k [2, 3, 4, 5, 6, 7, 31] ?_; refine vc_cond rfl (fun hb => ?_) (fun hb => ?_)
 ·
  have hfg : f1 = f2 := by simpa using hb
  refine vc_sd .drawB [0, 1, 2, 3, 5, 4, 6, 7] follows (by kernel_rfl) ?_; refine vr 5 ?_; refine vco_callM rfl rfl (natAdd_ok hx5 hy5 (by omega) (by omega)) (fun _ _ h => by first | exact h.le | exact h.1) ?_; rintro v6 H6 hp6; have hz6 := hz5.le hp6.le; have hx6 := hp6.nat; obtain ⟨Ahx6, chx6, rfl, hchx6, hrhx6⟩ := id hx6; refine vco_callM rfl rfl (build_ok (f := f1) hx6.l32 hz6.l32 lt32 lt32 (by omega) (by omega)) (fun _ _ h => by first | exact h.le | exact h.1) ?_; rintro w7 G7 ⟨hlg7, hq7⟩; rw [val_limbs, val_limbs, ← frac_add_same f1 hd1 hd2, hfs1, hfg, hfs2] at hq7; obtain ⟨u7, x7, rfl, hu7, hx7⟩ := id hq7; obtain ⟨Ahu7, chu7, rfl, hchu7, hrhu7⟩ := id hu7; obtain ⟨Ahx7, chx7, rfl, hchx7, hrhx7⟩ := id hx7; obtain ⟨ti, hti, htz⟩ := sz36; refine vco_bstore (.inl ⟨rfl, rfl⟩) rfl rfl rfl hti htz rfl rfl rfl ?_; refine vco_k [4] ?_; obtain ⟨ri0, rhi0, rhz0⟩ := sz36; refine vc_ret ⟨.inr rfl, _, .agg rfl Tryz.underlying36 rhi0 rhz0 (.nil), ?_⟩; exact ⟨(hle5.trans hp6.le).trans hlg7, hq7⟩
 ·
  have hfg : f1 ≠ f2 := by simpa using hb
  refine vc_skip ?_; refine vc_keep [2, 3, 4, 5, 6, 7] rfl ?_; refine vc_seq ?_; refine vc_sr ?_; refine vr 2 ?_; refine vco_call rfl rfl (natCmp_ok hx5 hy5 (by omega)) ?_; rintro v6 H6 ⟨e6, rfl⟩; rw [e6]; refine vr 1 ?_; refine vco_k [2, 3, 4, 5, 6, 7, 42] ?_; refine vc_cond rfl (fun hb => ?_) (fun hb => ?_)
  ·
   have hb : n2 * d1 ≤ n1 * d2 := cmpN_ge0.1 (by simpa using hb); have hs2 := limbs_len_mono (Nat.sub_le (n1 * d2) (n2 * d1)); refine vc_sd .drawB [0, 1, 2, 3, 5, 4, 6, 7] follows (by kernel_rfl) ?_; refine vr 5 ?_; refine vco_callM rfl rfl (natSub_ok hx5 hy5 hb (by omega)) (fun _ _ h => by first | exact h.le | exact h.1) ?_; rintro v6 H6 hp6; have hz6 := hz5.le hp6.le; have hx6 := hp6.nat; obtain ⟨Ahx6, chx6, rfl, hchx6, hrhx6⟩ := id hx6; refine vco_callM rfl rfl (build_ok (f := f1) hx6.l32 hz6.l32 lt32 lt32 (by omega) (by omega)) (fun _ _ h => by first | exact h.le | exact h.1) ?_; rintro w7 G7 ⟨hlg7, hq7⟩; rw [val_limbs, val_limbs, ← frac_add_ge hfg hd1 hd2 hb, hfs1, hfs2] at hq7; obtain ⟨u7, x7, rfl, hu7, hx7⟩ := id hq7; obtain ⟨Ahu7, chu7, rfl, hchu7, hrhu7⟩ := id hu7; obtain ⟨Ahx7, chx7, rfl, hchx7, hrhx7⟩ := id hx7; obtain ⟨ti, hti, htz⟩ := sz36; refine vco_bstore (.inl ⟨rfl, rfl⟩) rfl rfl rfl hti htz rfl rfl rfl ?_; refine vco_k [4] ?_; obtain ⟨ri0, rhi0, rhz0⟩ := sz36; refine vc_ret ⟨.inr rfl, _, .agg rfl Tryz.underlying36 rhi0 rhz0 (.nil), ?_⟩; exact ⟨(hle5.trans hp6.le).trans hlg7, hq7⟩
  ·
   have hb : n1 * d2 ≤ n2 * d1 := by
    have : ¬ 0 ≤ cmpN (n1 * d2) (n2 * d1) := by simp at hb; omega
    rw [cmpN_ge0] at this; omega
   have hs2 := limbs_len_mono (Nat.sub_le (n2 * d1) (n1 * d2)); refine vc_skip ?_; refine vc_keep [3, 4, 5, 6, 7] rfl ?_; refine vc_sd .drawB [0, 1, 2, 3, 5, 4, 6, 7] follows (by kernel_rfl) ?_; refine vr 5 ?_; refine vco_callM rfl rfl (natSub_ok hy5 hx5 hb (by omega)) (fun _ _ h => by first | exact h.le | exact h.1) ?_; rintro v6 H6 hp6; have hz6 := hz5.le hp6.le; have hx6 := hp6.nat; obtain ⟨Ahx6, chx6, rfl, hchx6, hrhx6⟩ := id hx6; refine vco_callM rfl rfl (build_ok (f := f2) hx6.l32 hz6.l32 lt32 lt32 (by omega) (by omega)) (fun _ _ h => by first | exact h.le | exact h.1) ?_; rintro w7 G7 ⟨hlg7, hq7⟩; rw [val_limbs, val_limbs, ← frac_add_lt hfg hd1 hd2 hb, hfs1, hfs2] at hq7; obtain ⟨u7, x7, rfl, hu7, hx7⟩ := id hq7; obtain ⟨Ahu7, chu7, rfl, hchu7, hrhu7⟩ := id hu7; obtain ⟨Ahx7, chx7, rfl, hchx7, hrhx7⟩ := id hx7; obtain ⟨ti, hti, htz⟩ := sz36; refine vco_bstore (.inl ⟨rfl, rfl⟩) rfl rfl rfl hti htz rfl rfl rfl ?_; refine vco_k [4] ?_; obtain ⟨ri0, rhi0, rhz0⟩ := sz36; refine vc_ret ⟨.inr rfl, _, .agg rfl Tryz.underlying36 rhi0 rhz0 (.nil), ?_⟩; exact ⟨(hle5.trans hp6.le).trans hlg7, hq7⟩
theorem rSub_ok {H : Heap} {v v2 : Value} {q q2 : Rat} {N : Nat} (hv : RawV H v q N) (hv2 : RawV H v2 q2 N) (hN : (N : Int) ≤ 1099511627778) :
  Fn Tryz.prog 65 #[v, v2] H (RetQ H (q - q2)) := by
 obtain ⟨bf, bu, bw, bl1, bl2, rfl, _⟩ := id hv
 obtain ⟨cf, cu, cw, cl1, cl2, rfl, _⟩ := id hv2
 have hq20 := hv2.size; refine fn_intro (args := [_, _]) Tryz.func65 rfl rfl Tryz.ntmps65 rfl rfl fun w0 => ?_; refine vc_keep [0, 1] rfl ?_; refine vc_sr ?_; refine vco_box rfl rfl ?_; refine vco_box rfl rfl ?_; refine vco_alloc el36 rfl ?_; refine vco_k [2, 3, 4] ?_; refine vc_sd .drawB [0, 1, 2, 3, 4] follows (by kernel_rfl) ?_; refine vr 2 ?_; refine vco_callM rfl rfl (rNeg_ok hv2 (by omega)) (fun _ _ h => by first | exact h.le | exact h.1) ?_; rintro w2 G2 ⟨hlg2, hq2⟩; obtain ⟨u2, x2, rfl, hu2, hx2⟩ := id hq2; obtain ⟨Ahu2, chu2, rfl, hchu2, hrhu2⟩ := id hu2; obtain ⟨Ahx2, chx2, rfl, hchx2, hrhx2⟩ := id hx2; have hr2 := hq2.raw; rw [show szQ (-q2) = szQ q2 by unfold szQ; rw [Rat.neg_num, Int.natAbs_neg, Rat.neg_den]] at hr2; refine vco_callM rfl rfl (rAdd_ok (N := N + 2) ((hv.le hlg2).mono (by omega)) (hr2.mono hq20) (by omega)) (fun _ _ h => by first | exact h.le | exact h.1) ?_; rintro w3 G3 ⟨hlg3, hq3⟩; rw [← Rat.sub_eq_add_neg] at hq3; obtain ⟨u3, x3, rfl, hu3, hx3⟩ := id hq3; obtain ⟨Ahu3, chu3, rfl, hchu3, hrhu3⟩ := id hu3; obtain ⟨Ahx3, chx3, rfl, hchx3, hrhx3⟩ := id hx3; obtain ⟨ti, hti, htz⟩ := sz36; refine vco_bstore (.inl ⟨rfl, rfl⟩) rfl rfl rfl hti htz rfl rfl rfl ?_; refine vco_k [4] ?_; obtain ⟨ri0, rhi0, rhz0⟩ := sz36; refine vc_ret ⟨.inr rfl, _, .agg rfl Tryz.underlying36 rhi0 rhz0 (.nil), ?_⟩; exact ⟨hlg2.trans hlg3, hq3⟩
theorem rCmp_ok {H : Heap} {v v2 : Value} {q q2 : Rat} {N : Nat} (hv : RawV H v q N) (hv2 : RawV H v2 q2 N) (hN : (N : Int) ≤ 1099511627776) :
  Fn Tryz.prog 33 #[v, v2] H (fun v H' => Heap.le H H' ∧ v = .int .i64 (cmpQ q q2)) := by
 obtain ⟨bf, bu, bw, bl1, bl2, rfl, _⟩ := id hv
 obtain ⟨cf, cu, cw, cl1, cl2, rfl, _⟩ := id hv2
 have hq0 := hv.size
 have hq20 := hv2.size; refine fn_intro (args := [_, _]) Tryz.func33 rfl rfl Tryz.ntmps33 rfl rfl fun w0 => ?_; refine vc_keep [0, 1] rfl ?_; refine vc_sr ?_; refine vco_box rfl rfl ?_; refine vco_box rfl rfl ?_; refine vr 1 ?_; refine vco_k [2, 3] ?_; refine vc_sr ?_; refine vr 2 ?_; refine vco_call rfl rfl (rSub_ok hv hv2 (by omega)) ?_; rintro w2 G2 ⟨hlg2, hq2⟩; obtain ⟨u2, x2, rfl, hu2, hx2⟩ := id hq2; obtain ⟨Ahu2, chu2, rfl, hchu2, hrhu2⟩ := id hu2; obtain ⟨Ahx2, chx2, rfl, hchx2, hrhx2⟩ := id hx2; have hsz := szQ_sub q q2; refine vco_call rfl rfl (rSign_ok hq2.raw (by omega)) ?_; rintro v3 H3 ⟨hl3, rfl⟩; refine vr 1 ?_; refine vco_k [4] ?_; refine vc_ret ⟨.inr rfl, _, .tmp rfl (.nil), ?_⟩; exact ⟨hlg2.trans hl3, by rw [cmp_sub]; rfl⟩
theorem rMul_ok {H : Heap} {v v2 : Value} {q q2 : Rat} {N : Nat} (hv : RawV H v q N) (hv2 : RawV H v2 q2 N) (hN : (N : Int) ≤ 1099511627780) :
  Fn Tryz.prog 70 #[v, v2] H (RetQ H (q * q2)) := by
 obtain ⟨bf, bu, bw, bl1, bl2, rfl, _⟩ := id hv
 obtain ⟨cf, cu, cw, cl1, cl2, rfl, _⟩ := id hv2
 have hq0 := hv.size
 have hq20 := hv2.size
 have hd1 := Nat.pos_of_ne_zero q.den_nz
 have hd2 := Nat.pos_of_ne_zero q2.den_nz
 have hfs1 := frac_self q
 have hfs2 := frac_self q2
 obtain ⟨f1, hf1⟩ : ∃ f1, f1 = decide (q.num < 0) := ⟨_, rfl⟩
 obtain ⟨f2, hf2⟩ : ∃ f2, f2 = decide (q2.num < 0) := ⟨_, rfl⟩
 obtain ⟨n1, hn1⟩ : ∃ n1, n1 = q.num.natAbs := ⟨_, rfl⟩
 obtain ⟨n2, hn2⟩ : ∃ n2, n2 = q2.num.natAbs := ⟨_, rfl⟩
 obtain ⟨d1, hd1'⟩ : ∃ d1, d1 = q.den := ⟨_, rfl⟩
 obtain ⟨d2, hd2'⟩ : ∃ d2, d2 = q2.den := ⟨_, rfl⟩
 have hz : (limbs n1).length ≤ N + 2 ∧ (limbs d1).length ≤ N + 2 ∧ (limbs n2).length ≤ N + 2 ∧ (limbs d2).length ≤ N + 2 := by
  unfold szQ at hq0 hq20
  rw [hn1, hn2, hd1', hd2']; omega
 rw [← hf1, ← hn1, ← hd1'] at hfs1
 rw [← hf2, ← hn2, ← hd2'] at hfs2
 rw [← hd1'] at hd1
 rw [← hd2'] at hd2
 have hm1 := len_mul n1 n2
 have hm2 := len_mul d1 d2; refine fn_intro (args := [_, _]) Tryz.func70 rfl rfl Tryz.ntmps70 rfl rfl fun w0 => ?_; refine vc_keep [0, 1] rfl ?_; refine vc_sr ?_; refine vco_box rfl rfl ?_; refine vco_box rfl rfl ?_; refine vco_alloc el36 rfl ?_; refine vco_k [2, 3, 4] ?_; refine vc_sd .drawB [0, 2, 1, 3, 4, 5] follows (by kernel_rfl) ?_; refine vr 2 ?_; refine vco_callM rfl rfl (rCanonical_ok hv (by omega)) (fun _ _ h => by first | exact h.le | exact h.1) ?_; rintro w1 G1 ⟨hl1, hcan1⟩
 unfold CanV at hcan1
 rw [← hf1, ← hn1, ← hd1'] at hcan1; obtain ⟨un1, ud1, rfl, hun1, hud1⟩ := id hcan1; obtain ⟨Ahun1, chun1, rfl, hchun1, hrhun1⟩ := id hun1; obtain ⟨Ahud1, chud1, rfl, hchud1, hrhud1⟩ := id hud1; refine vco_callM rfl rfl (rCanonical_ok (hv2.le hl1) (by omega)) (fun _ _ h => by first | exact h.le | exact h.1) ?_; rintro w2 G2 ⟨hl2, hcan2⟩
 unfold CanV at hcan2
 rw [← hf2, ← hn2, ← hd2'] at hcan2; obtain ⟨un2, ud2, rfl, hun2, hud2⟩ := id hcan2; obtain ⟨Ahun2, chun2, rfl, hchun2, hrhun2⟩ := id hun2; obtain ⟨Ahud2, chud2, rfl, hchud2, hrhud2⟩ := id hud2; have hun1 := hun1.le hl2; have hud1 := hud1.le hl2; have hle := hl1.trans hl2; obtain ⟨ti, hti, htz⟩ := sz36; refine vco_bstore (.inl ⟨rfl, rfl⟩) rfl rfl rfl hti htz rfl rfl rfl ?_; obtain ⟨ti, hti, htz⟩ := sz36; refine vco_bstore (.inl ⟨rfl, rfl⟩) rfl rfl rfl hti htz rfl rfl rfl ?_; refine vco_k [2, 3, 4] ?_; refine vc_sd .drawB [0, 1, 2, 3, 4, 5, 6, 7, 8, 10, 11, 12, 13, 9, 14, 15, 16] follows (by kernel_rfl) ?_; refine vr 4 ?_; refine vco_neb Tryz.underlying4 rfl rfl ?_; refine vr 8 ?_; refine vco_callM rfl rfl (natMul_ok hun1 hun2 (by omega) (by omega)) (fun _ _ h => by first | exact h.le | exact h.1) ?_; rintro v3 H3 hp3; refine vco_callM rfl rfl (natMul_ok (hud1.le hp3.le) (hud2.le hp3.le) (by omega) (by omega)) (fun _ _ h => by first | exact h.le | exact h.1) ?_; rintro v4 H4 hp4; have hx4 := hp3.nat.le hp4.le; have hy4 := hp4.nat; obtain ⟨Ahx4, chx4, rfl, hchx4, hrhx4⟩ := id hx4; obtain ⟨Ahy4, chy4, rfl, hchy4, hrhy4⟩ := id hy4; refine vco_callM rfl rfl (build_ok (f := f1 != f2) hx4.l32 hy4.l32 lt32 lt32 (by omega) (by omega)) (fun _ _ h => by first | exact h.le | exact h.1) ?_; rintro w5 G5 ⟨hlg5, hq5⟩; rw [val_limbs, val_limbs, ← frac_mul, hfs1, hfs2] at hq5; obtain ⟨u5, x5, rfl, hu5, hx5⟩ := id hq5; obtain ⟨Ahu5, chu5, rfl, hchu5, hrhu5⟩ := id hu5
 obtain ⟨Ahx5, chx5, rfl, hchx5, hrhx5⟩ := id hx5; obtain ⟨ti, hti, htz⟩ := sz36; refine vco_bstore (.inl ⟨rfl, rfl⟩) rfl rfl rfl hti htz rfl rfl rfl ?_; refine vco_k [4] ?_; obtain ⟨ri0, rhi0, rhz0⟩ := sz36; refine vc_ret ⟨.inr rfl, _, .agg rfl Tryz.underlying36 rhi0 rhz0 (.nil), ?_⟩; exact ⟨((hle.trans hp3.le).trans hp4.le).trans hlg5, hq5⟩
end Go.Eng
/- Walks over package simplex, tableau.go, part 9: row. -/
namespace Go.Eng
open Go.Proofs Num Lp
theorem rwk_succ (L : TL) (a : Nat → Rat) (sg : Rat) (k : Nat) : rwk L a sg (k + 1) = if 0 ≤ L.mZ k then upd (upd (rwk L a sg k) (L.pF k) (a k * sg)) (L.mZ k).toNat (-(a k * sg)) else upd (rwk L a sg k) (L.pF k) (a k * sg) := rfl
theorem row_ok {H : Heap} {g : Nat} {ts : List Value} {pv mv : Value} {L : TL} {n N : Nat} {vs ss : List Value} {r : List Rat × Int × Rat} {slack : Int} {unit : Nat} {sg : Rat}
  (hg : H g = some ⟨ts, 9, 155, true⟩) (ht0 : ts[0]? = some (.int .i64 (L.w : Int))) (ht2 : ts[2]? = some pv) (ht3 : ts[3]? = some mv) (hpv : SlV NatP 1 (rem H [g]) pv L.plus) (hmv : SlV IntP 1 (rem H [g]) mv L.minus)
  (hr : RowP N (rem H [g]) vs r) (hs : NumV (rem H [g]) ss sg) (hs1 : szQ sg ≤ 1) (hn : r.1.length = n) (hpl : L.plus.length = n) (hml : L.minus.length = n) (hpw : ∀ j, j < n → L.pF j < L.w) (hmw : ∀ j, j < n → L.mZ j < L.w)
  (hsl : r.2.1 ≠ 2 → 0 ≤ slack ∧ slack < L.w) (hun : unit < L.w) (hN : (N : Int) ≤ 549755813888) (hw : (L.w : Int) ≤ 1000000) (hnn : (n : Int) ≤ 1000000) :
  Fn Tryz.prog 158 #[.pointer (some ⟨g, 0, none⟩), .agg vs.toArray, .agg ss.toArray, .int .i64 slack, .int .i64 (unit : Int)] H (fun v H' => Heap.le H H' ∧ ∃ z xs, v = .slice (some ⟨z, 0, none⟩) (L.w + 1) (L.w + 1) ∧ Work [g] H H' z xs ((L.w + 1) * 3) 149 ∧ Els (NumV (rem H' (z :: [g]))) 3 xs (vals (rowF L n (fn r.1) r.2.2 r.2.1 slack unit sg) (L.w + 1))) := by
 obtain ⟨ns, ds, bs, rfl⟩ := hs.cells
 obtain ⟨Ac, cc, kk, f, A1, m1, c1, A2, m2, c2, rfl, rfl⟩ := hr.cells
 obtain ⟨c', f', u', w', hvs, hco, hbd⟩ := id hr
 simp only [List.cons.injEq, Value.bool.injEq, and_true, true_and] at hvs
 obtain ⟨rfl, rfl, rfl, rfl⟩ := hvs
 have hne : ∀ q, q ∈ [g] → H q ≠ none := fun q hq => by rw [List.mem_singleton.1 hq, hg]; simp
 obtain ⟨Ap, cp, xp, rfl, hrp, hxp⟩ := hpv.one
 obtain ⟨Am, cm, xm, rfl, hrm, hxm⟩ := hmv.one
 rw [hpl] at ht2
 rw [hml] at ht3
 have hgE : ∀ {H' : Heap} {z : Nat} {xs : List Value} {s e : Nat}, Work [g] H H' z xs s e → H' g = some ⟨ts, 9, 155, true⟩ := fun hwk => (hwk.same g (List.mem_singleton.2 rfl)).trans hg
 have hcl : ∀ {H' : Heap} {k : Nat} {v : Value}, H' g = some ⟨ts, 9, 155, true⟩ → ts[k]? = some v → cell H' ((⟨g, 0, none⟩ : Addr).add k) = some v := fun h1 h2 => by simp [cell, addr0, h1, h2]
 have hc00 : ∀ {H' : Heap}, H' g = some ⟨ts, 9, 155, true⟩ → cell H' (⟨g, 0, none⟩ : Addr) = some (.int .i64 (L.w : Int)) := fun h1 => by have := hcl (k := 0) h1 ht0; rwa [addr0] at this
 have hLp : ∀ j, j < n → L.plus[j]? = some (L.pF j) := fun j hj => by
  have : j < L.plus.length := by rw [hpl]; exact hj
  simp [TL.pF, List.getD, List.getElem?_eq_getElem this]
 have hLm : ∀ j, j < n → L.minus[j]? = some (L.mZ j) := fun j hj => by
  have : j < L.minus.length := by rw [hml]; exact hj
  simp [TL.mZ, List.getD, List.getElem?_eq_getElem this]
 refine fn_intro (args := [_, _, _, _, _]) Tryz.func158 rfl rfl Tryz.ntmps158 rfl rfl fun w0 => ?_; refine vc_keep [0, 1, 2, 3, 4] rfl ?_; refine vc_sr ?_; refine vco_box rfl rfl ?_; refine vco_box rfl rfl ?_; refine vr 1 ?_; refine vco_k [0, 3, 4, 6, 7] ?_; refine vc_sr ?_; refine vr 2 ?_; refine vco_hfld tbOk rfl rfl rfl ?_; refine vco_hload tbOk rfl rfl rfl (hc00 hg) ?_; refine vco_add rfl rfl ⟨by omega, by omega⟩ ?_; refine vco_call rfl rfl (zeros_fr (gs := [g]) (n := L.w + 1) hne (by omega)) ?_; rintro v1 H1 ⟨hl1, z, xs0, rfl, hwk1, hel1⟩; have hxl1 := (hel1 H).len; rw [vals_len] at hxl1; refine vr 1 ?_; refine vco_k [0, 3, 4, 6, 7, 11] ?_; refine vc_seq ?_; refine vc_sr ?_; refine vr 2 ?_; refine vco_call rfl rfl (Fn.frS (gs := z :: [g]) (hwk1.ne hne) (svector_ok (hco.le (ratUp N) hwk1.le) (by omega) (by omega))) ?_; rintro v2 H2 ⟨hk2, hl2, hs2⟩; have hwk2 := hwk1.kept hk2; obtain ⟨Av, cv, xv, rfl, hrv, hxv⟩ := hs2.num; rw [hn]; refine vr 2 ?_; refine vco_k [0, 3, 4, 6, 7, 11, 22, 23, 24] ?_; refine vc_block ?_; refine vc_loop2 (fun (k : Nat) (xs : List Value) => n - k) (fun (k : Nat) (xs : List Value) => put (put (put (put (put (put (put (put (put (emp) 0 (.val (.pointer (some ⟨g, 0, none⟩)))) 3 (.val (.int .i64 slack))) 4 (.val (.int .i64 (unit : Int)))) 6 (.box [.slice Ac n cc, .int .i64 r.2.1, .bool f, .slice A1 m1 c1, .slice A2 m2 c2])) 7 (.box [.int .i64 ns, .int .i64 ds, .pointer bs])) 11 (.val (.slice (some ⟨z, 0, none⟩) (L.w + 1) (L.w + 1)))) 22 (.val (.slice Av n cv))) 23 (.val (.int .i64 (n : Int)))) 24 (.val (.int .i64 (k : Int)))) (fun (k : Nat) (xs : List Value) H' => Work [g] H H' z xs ((L.w + 1) * 3) 149 ∧ Els (NumV (rem H' (z :: [g]))) 3 xs (vals (rwk L (fn r.1) sg k) (L.w + 1)) ∧ Heap.le (rem H2 (z :: [g])) (rem H' (z :: [g])) ∧ Heap.le H H' ∧ k ≤ n) 0 xs0 (⟨hwk2, by rw [vals_congr (f := rwk L (fn r.1) sg 0) (g := fun _ => 0) (fun j _ => rfl)]; exact hel1 _, .refl _, hl1.trans hl2, Nat.zero_le _⟩) sub_auto ?_
 rintro k xs H3 ⟨hwk3, hel3, hle3, hlh3, hk3⟩; have hxl := hel3.len; rw [vals_len] at hxl; have hg3 := hgE hwk3; refine vc_sr ?_; refine vr 1 ?_; refine vco_k [0, 3, 4, 6, 7, 11, 22, 23, 24, 25] ?_; refine vc_seq ?_; refine vc_cond rfl (fun hb => ?_) (fun hb => ?_)
 ·
  have hkn : k < n := by simpa using hb
  obtain ⟨q, hqk⟩ : ∃ q, r.1[k]? = some q := ⟨_, List.getElem?_eq_getElem (by omega)⟩; obtain ⟨n1, d1, b1, hn1, hx1⟩ := hxv k q hqk; have hfq : fn r.1 k = q := fn_get hqk
  have hszq : szQ q ≤ N + 2 := by
   obtain ⟨A9, c9, x9, _, _, _, h9⟩ := hco; exact RawV.size (h9.at_ k q hqk)
  obtain ⟨up, hup, hupe⟩ := hxp k _ (hLp k hkn); obtain ⟨um, hum, hume⟩ := hxm k _ (hLm k hkn)
  cases hupe
  cases hume
  have hpwk := hpw k hkn; have hmwk := hmw k hkn; refine vc_skip ?_; refine vc_keep [0, 3, 4, 6, 7, 11, 22, 23, 24] rfl ?_; refine vc_seq ?_; refine vc_block ?_; refine vc_sr ?_; refine vr 1 ?_; refine vco_at_st (vs := [.int .i64 n1, .int .i64 d1, .pointer b1]) tbOk rfl rfl rfl rfl ((hrv.le hle3).le (rem_le _ _)) rfl (by decide) hx1 (by omega) (by omega) fun _ => ?_; refine vco_alloc el149 rfl ?_; refine vr 1 ?_; obtain ⟨ti, hti, htz⟩ := sz149; refine vco_bstore (.inl ⟨rfl, rfl⟩) rfl rfl rfl hti htz rfl rfl rfl ?_; refine vco_k [0, 3, 4, 6, 7, 11, 12, 13, 22, 23, 24] ?_; refine vc_sd .drawH [0, 1, 2, 3, 4, 5, 6, 7, 8, 9, 10, 11, 12] follows (by kernel_rfl) ?_; refine vr 3 ?_; refine vco_hfld tbOk rfl rfl rfl ?_; refine vco_hload tbOk rfl rfl rfl (hcl hg3 ht2) ?_; refine vr 1 ?_; refine vco_at tbOk rfl rfl rfl rfl rfl ((hrp.le hwk3.le).le (rem_le _ _)) (by rw [Int.toNat_natCast]; exact hup) (by omega) (by omega) fun _ => ?_; refine vr 2 ?_; refine vco_callM rfl rfl (Fn.frM (hwk3.ne hne) (smul_ok (N := N + 2) (hn1.le hle3) (hs.le hwk3.le) hszq (by omega) (by omega))) (fun _ _ h => by first | exact h.le | exact h.1) ?_; rintro v4 H4 ⟨hk4, hl4, n4, d4, b4, rfl, hq4⟩; have hwk4 := hwk3.kept hk4; rw [← hfq] at hq4; obtain ⟨ti, hti, htz⟩ := sz149; refine vco_set (.inr rfl) tbOk rfl rfl rfl (by omega) (by omega) (hwk4.blk) rfl (by show 0 + (L.w + 1) * 3 ≤ xs.length; omega) hti htz (fun _ => rfl) rfl rfl rfl fun _ => ?_
  refine vco_k [0, 3, 4, 6, 7, 11, 12, 13, 22, 23, 24] ?_; have hwk5 : Work [g] H (ins H4 z { (⟨xs, (L.w + 1) * 3, 149, true⟩ : Ent) with xs := splice xs (0 + ((L.pF k : Nat) : Int).toNat * 3) [.int .i64 n4, .int .i64 d4, .pointer b4] }) z (splice xs (L.pF k * 3) [.int .i64 n4, .int .i64 d4, .pointer b4]) ((L.w + 1) * 3) 149 := hwk4.set (by rw [Int.toNat_natCast]; exact ent_set)
  have hel5 : Els (NumV (rem (ins H4 z { (⟨xs, (L.w + 1) * 3, 149, true⟩ : Ent) with xs := splice xs (0 + ((L.pF k : Nat) : Int).toNat * 3) [.int .i64 n4, .int .i64 d4, .pointer b4] }) (z :: [g]))) 3 (splice xs (L.pF k * 3) [.int .i64 n4, .int .i64 d4, .pointer b4]) (vals (upd (rwk L (fn r.1) sg k) (L.pF k) (fn r.1 k * sg)) (L.w + 1)) := by
   rw [rem_ins_in _ (List.mem_cons_self ..)]; exact els_upd (hel3.mono fun vs a => numUp _ _ vs a hk4.le) (by omega) hq4
  have hle5 : Heap.le (rem H2 (z :: [g])) (rem (ins H4 z { (⟨xs, (L.w + 1) * 3, 149, true⟩ : Ent) with xs := splice xs (0 + ((L.pF k : Nat) : Int).toNat * 3) [.int .i64 n4, .int .i64 d4, .pointer b4] }) (z :: [g])) := by
   rw [rem_ins_in _ (List.mem_cons_self ..)]; exact hle3.trans hk4.le
  generalize ins H4 z { (⟨xs, (L.w + 1) * 3, 149, true⟩ : Ent) with xs := splice xs (0 + ((L.pF k : Nat) : Int).toNat * 3) [.int .i64 n4, .int .i64 d4, .pointer b4] } = H5 at hwk5 hel5 hle5 ⊢
  have hg5 := hgE hwk5; have hxl5 := hel5.len; rw [vals_len] at hxl5; refine vc_sr ?_; refine vr 2 ?_; refine vco_hfld tbOk rfl rfl rfl ?_; refine vco_hload tbOk rfl rfl rfl (hcl hg5 ht3) ?_; refine vr 1 ?_; refine vco_at tbOk rfl rfl rfl rfl rfl ((hrm.le hwk5.le).le (rem_le _ _)) (by rw [Int.toNat_natCast]; exact hum) (by omega) (by omega) fun _ => ?_; refine vr 1 ?_; refine vco_k [0, 3, 4, 6, 7, 11, 12, 13, 22, 23, 24, 48] ?_; refine vc_cond rfl (fun hb => ?_) (fun hb => ?_)
  ·
   have hb : 0 ≤ L.mZ k := by simpa using hb
   refine vc_draw .drawH [0, 1, 2, 3, 4, 5, 6, 7, 8, 9, 10, 11, 12, 13] follows (by kernel_rfl) ?_; refine vr 3 ?_; refine vco_hfld tbOk rfl rfl rfl ?_; refine vco_hload tbOk rfl rfl rfl (hcl hg5 ht3) ?_; refine vr 1 ?_; refine vco_at tbOk rfl rfl rfl rfl rfl ((hrm.le hwk5.le).le (rem_le _ _)) (by rw [Int.toNat_natCast]; exact hum) (by omega) (by omega) fun _ => ?_; refine vr 2 ?_; refine vco_callM rfl rfl (Fn.frM (hwk5.ne hne) (smul_ok (N := N + 2) (hn1.le hle5) (hs.le hwk5.le) hszq (by omega) (by omega))) (fun _ _ h => by first | exact h.le | exact h.1) ?_; rintro v6 H6 ⟨hk6, hl6, n6, d6, b6, rfl, hq6⟩; have hwk6 := hwk5.kept hk6; have hsm := szQ_mul q sg; refine vco_callM rfl rfl (Fn.frM (hwk6.ne hne) (sneg_ok hq6 (by omega))) (fun _ _ h => by first | exact h.le | exact h.1) ?_; rintro v7 H7 ⟨hk7, hl7, n7, d7, b7, rfl, hq7⟩; have hwk7 := hwk6.kept hk7; rw [← hfq] at hq7; obtain ⟨ti, hti, htz⟩ := sz149; refine vco_set (.inr rfl) tbOk rfl rfl rfl (by omega) (by omega) (hwk7.blk) rfl (by show 0 + (L.w + 1) * 3 ≤ (splice xs (L.pF k * 3) [.int .i64 n4, .int .i64 d4, .pointer b4]).length; omega) hti htz (fun _ => rfl) rfl rfl rfl fun _ => ?_; refine vco_end ?_; have hwk8 := hwk7.set (ent_set (xs := splice xs (L.pF k * 3) [.int .i64 n4, .int .i64 d4, .pointer b4]) (vs := [.int .i64 n7, .int .i64 d7, .pointer b7]) (k := (L.mZ k).toNat) (sz := 3)); refine vc_keep [0, 3, 4, 6, 7, 11, 22, 23, 24] rfl ?_; refine vc_region rfl ?_; refine vco_add rfl rfl ⟨by omega, by omega⟩ ?_
   refine vr 1 ?_; refine vco_end ?_; exact ⟨k + 1, _, by omega, sub_auto, hwk8, by rw [rem_ins_in _ (List.mem_cons_self ..), rwk_succ, if_pos hb]; exact els_upd (hel5.mono fun vs a => numUp _ _ vs a (hk6.le.trans hk7.le)) (by omega) hq7, by rw [rem_ins_in _ (List.mem_cons_self ..)]; exact (hle5.trans hk6.le).trans hk7.le, hwk8.hle, by omega⟩
  ·
   have hb : ¬ 0 ≤ L.mZ k := by simpa using hb
   refine vc_skip ?_; refine vc_keep [0, 3, 4, 6, 7, 11, 22, 23, 24] rfl ?_; refine vc_region rfl ?_; refine vco_add rfl rfl ⟨by omega, by omega⟩ ?_; refine vr 1 ?_; refine vco_end ?_; exact ⟨k + 1, _, by omega, sub_auto, hwk5, by rw [rwk_succ, if_neg hb]; exact hel5, hle5, hwk5.hle, by omega⟩
 ·
  have hb : n ≤ k := by simpa using hb
  obtain rfl : n = k := by omega
  refine vc_exit ?_; refine vc_keep [0, 3, 4, 6, 7, 11] rfl ?_; refine vc_cut1 (fun (ys : List Value) => put (put (put (put (put (emp) 0 (.val (.pointer (some ⟨g, 0, none⟩)))) 4 (.val (.int .i64 (unit : Int)))) 6 (.box [.slice Ac n cc, .int .i64 r.2.1, .bool f, .slice A1 m1 c1, .slice A2 m2 c2])) 7 (.box [.int .i64 ns, .int .i64 ds, .pointer bs])) 11 (.val (.slice (some ⟨z, 0, none⟩) (L.w + 1) (L.w + 1)))) (fun (ys : List Value) H' => Work [g] H H' z ys ((L.w + 1) * 3) 149 ∧ Els (NumV (rem H' (z :: [g]))) 3 ys (vals (rwS (rwk L (fn r.1) sg n) r.2.1 slack sg) (L.w + 1))) ?_ ?_
  ·
   refine vc_sr ?_; refine vr 2 ?_; refine vco_k [0, 3, 4, 6, 7, 11, 64] ?_; refine vc_block ?_; refine vc_sr ?_; refine vr 2 ?_; refine vco_k [0, 3, 4, 6, 7, 11, 64, 65] ?_; refine vc_cond rfl (fun hb => ?_) (fun hb => ?_)
   ·
    have hb : r.2.1 = 1 := by simpa using hb
    have hsl1 := hsl (by omega); refine vc_region rfl ?_; refine vr 3 ?_; obtain ⟨ti, hti, htz⟩ := sz149; refine vco_set (.inl rfl) tbOk rfl rfl rfl (by omega) (by omega) (hwk3.blk) rfl (by show 0 + (L.w + 1) * 3 ≤ xs.length; omega) hti htz (fun _ => rfl) rfl rfl rfl fun _ => ?_; refine vco_end ?_; exact ⟨_, sub_auto, hwk3.set ent_set, by rw [rem_ins_in _ (List.mem_cons_self ..)]; unfold rwS; rw [if_pos hb]; exact els_upd hel3 (by omega) (hs.le hwk3.le)⟩
   ·
    have hb : ¬ r.2.1 = 1 := by simpa using hb
    refine vc_sr ?_; refine vr 2 ?_; refine vco_k [0, 3, 4, 6, 7, 11, 71] ?_; refine vc_cond rfl (fun hb => ?_) (fun hb => ?_)
    ·
     have hb3 : r.2.1 = 3 := by simpa using hb
     have hb : ¬ r.2.1 = 1 := by omega
     have hsl1 := hsl (by omega); refine vc_region rfl ?_; refine vr 3 ?_; refine vco_call rfl rfl (Fn.frM (hwk3.ne hne) (sneg_ok (hs.le hwk3.le) (by omega))) ?_; rintro v9 H9 ⟨hk9, hl9, n9, d9, b9, rfl, hq9⟩; have hwk9 := hwk3.kept hk9; obtain ⟨ti, hti, htz⟩ := sz149; refine vco_set (.inl rfl) tbOk rfl rfl rfl (by omega) (by omega) (hwk9.blk) rfl (by show 0 + (L.w + 1) * 3 ≤ xs.length; omega) hti htz (fun _ => rfl) rfl rfl rfl fun _ => ?_; refine vco_end ?_; exact ⟨_, sub_auto, hwk9.set ent_set, by rw [rem_ins_in _ (List.mem_cons_self ..)]; unfold rwS; rw [if_neg hb, if_pos hb3]; exact els_upd (hel3.mono fun vs a => numUp _ _ vs a hk9.le) (by omega) hq9⟩
    ·
     have hb3 : ¬ r.2.1 = 3 := by simpa using hb
     have hb : ¬ r.2.1 = 1 := by assumption
     refine vc_skip ?_; exact ⟨_, sub_auto, hwk3, by unfold rwS; rw [if_neg hb, if_neg hb3]; exact hel3⟩
  ·
   rintro ys H9 ⟨hwk9, hel9⟩; have hxl9 := hel9.len; rw [vals_len] at hxl9; refine vc_sr ?_; refine vr 2 ?_; refine vco_call rfl rfl (swhole_ok) ?_; rintro v10 H10 ⟨e10, rfl⟩; rw [e10]; obtain ⟨ti, hti, htz⟩ := sz149; refine vco_set (.inl rfl) tbOk rfl rfl rfl (by omega) (by omega) (hwk9.blk) rfl (by show 0 + (L.w + 1) * 3 ≤ ys.length; omega) hti htz (fun _ => rfl) rfl rfl rfl fun _ => ?_; refine vco_k [0, 6, 7, 11] ?_; have hwk11 : Work [g] H (ins H9 z { (⟨ys, (L.w + 1) * 3, 149, true⟩ : Ent) with xs := splice ys (0 + ((unit : Int)).toNat * 3) [.int .i64 1, .int .i64 1, .pointer none] }) z (splice ys (unit * 3) [.int .i64 1, .int .i64 1, .pointer none]) ((L.w + 1) * 3) 149 := hwk9.set (by rw [Int.toNat_natCast]; exact ent_set)
   have hel11 : Els (NumV (rem (ins H9 z { (⟨ys, (L.w + 1) * 3, 149, true⟩ : Ent) with xs := splice ys (0 + ((unit : Int)).toNat * 3) [.int .i64 1, .int .i64 1, .pointer none] }) (z :: [g]))) 3 (splice ys (unit * 3) [.int .i64 1, .int .i64 1, .pointer none]) (vals (upd (rwS (rwk L (fn r.1) sg n) r.2.1 slack sg) unit 1) (L.w + 1)) := by
    rw [rem_ins_in _ (List.mem_cons_self ..)]; exact els_upd hel9 (by omega) (numV_int _ (n := 1) (by decide) (by decide))
   generalize ins H9 z { (⟨ys, (L.w + 1) * 3, 149, true⟩ : Ent) with xs := splice ys (0 + ((unit : Int)).toNat * 3) [.int .i64 1, .int .i64 1, .pointer none] } = H11 at hwk11 hel11 ⊢
   have hg11 := hgE hwk11; have hxl11 := hel11.len; rw [vals_len] at hxl11; have hszb := hbd.size; refine vc_sd .drawH [0, 1, 2, 3, 4, 5, 6, 8, 7, 9, 10, 11] follows (by kernel_rfl) ?_; refine vr 3 ?_; refine vco_hfld tbOk rfl rfl rfl ?_; refine vco_hload tbOk rfl rfl rfl (hc00 hg11) ?_; refine vr 3 ?_; refine vco_callM rfl rfl (Fn.frM (hwk11.ne hne) (sload_ok (hbd.le hwk11.le) (by omega))) (fun _ _ h => by first | exact h.le | exact h.1) ?_; rintro v12 H12 ⟨hk12, hl12, n12, d12, b12, rfl, hq12⟩; have hwk12 := hwk11.kept hk12; refine vco_callM rfl rfl (Fn.frM (hwk12.ne hne) (smul_ok (N := N + 2) hq12 (hs.le hwk12.le) hszb (by omega) (by omega))) (fun _ _ h => by first | exact h.le | exact h.1) ?_; rintro v13 H13 ⟨hk13, hl13, n13, d13, b13, rfl, hq13⟩; have hwk13 := hwk12.kept hk13; obtain ⟨ti, hti, htz⟩ := sz149; refine vco_set (.inr rfl) tbOk rfl rfl rfl (by omega) (by omega) (hwk13.blk) rfl (by show 0 + (L.w + 1) * 3 ≤ (splice ys (unit * 3) [.int .i64 1, .int .i64 1, .pointer none]).length; omega) hti htz (fun _ => rfl) rfl rfl rfl fun _ => ?_; refine vco_k [11] ?_; have hwk14 : Work [g] H (ins H13 z { (⟨splice ys (unit * 3) [.int .i64 1, .int .i64 1, .pointer none], (L.w + 1) * 3, 149, true⟩ : Ent) with xs := splice (splice ys (unit * 3) [.int .i64 1, .int .i64 1, .pointer none]) (0 + ((L.w : Int)).toNat * 3) [.int .i64 n13, .int .i64 d13, .pointer b13] }) z (splice (splice ys (unit * 3) [.int .i64 1, .int .i64 1, .pointer none]) (L.w * 3) [.int .i64 n13, .int .i64 d13, .pointer b13]) ((L.w + 1) * 3) 149 := hwk13.set (by rw [Int.toNat_natCast]; exact ent_set)
   refine vc_sr ?_; refine vr 2 ?_; refine vco_k [10] ?_; refine vc_ret ⟨.inr rfl, _, .tmp rfl (.nil), ?_⟩; exact ⟨hwk14.hle, z, _, rfl, hwk14, by rw [rem_ins_in _ (List.mem_cons_self ..)]; exact els_upd (hel11.mono fun vs a => numUp _ _ vs a (hk12.le.trans hk13.le)) (by omega) hq13⟩
end Go.Eng
/- The columns of a tableau, and how lists grow in memory. -/
namespace Go.Eng
open Go.Proofs Num Lp
/-! ## the columns -/
def colc (fr : Nat → Bool) : Nat → Nat
  | 0 => 0
  | k + 1 => colc fr k + 1 + (if fr k then 1 else 0)
def mnz (fr : Nat → Bool) (k : Nat) : Int := if fr k then ((colc fr k + 1 : Nat) : Int) else -1
def slc (rel : Nat → Int) (c : Nat) : Nat → Nat
  | 0 => c
  | i + 1 => slc rel c i + (if rel i = 2 then 0 else 1)
def slz (rel : Nat → Int) (c i : Nat) : Int := if rel i = 2 then -1 else (slc rel c i : Int)
def sgi (b : Rat) (rel : Int) : Int := if b < 0 ∨ (b = 0 ∧ rel = 3) then -1 else 1
def ownB (rel s : Int) : Bool := decide ((rel = 1 ∧ s = 1) ∨ (rel = 3 ∧ s = -1))
def unc (rel sg : Nat → Int) (u : Nat) : Nat → Nat
  | 0 => u
  | i + 1 => unc rel sg u i + (if ownB (rel i) (sg i) then 0 else 1)
def unt (rel sg : Nat → Int) (c u i : Nat) : Nat := if ownB (rel i) (sg i) then slc rel c i else unc rel sg u i
theorem sgi_or (b : Rat) (rel : Int) : sgi b rel = 1 ∨ sgi b rel = -1 := by unfold sgi; split <;> simp
theorem colc_le (fr : Nat → Bool) (k : Nat) : colc fr k ≤ 2 * k := by
  induction k with
  | zero => exact Nat.le_refl _
  | succ k ih => unfold colc; split <;> omega
theorem slc_le (rel : Nat → Int) (c k : Nat) : slc rel c k ≤ c + k ∧ c ≤ slc rel c k := by
  induction k with
  | zero => exact ⟨Nat.le_refl _, Nat.le_refl _⟩
  | succ k ih => unfold slc; split <;> omega
theorem unc_le (rel sg : Nat → Int) (u k : Nat) : unc rel sg u k ≤ u + k ∧ u ≤ unc rel sg u k := by
  induction k with
  | zero => exact ⟨Nat.le_refl _, Nat.le_refl _⟩
  | succ k ih => unfold unc; split <;> omega
theorem colc_mono {fr : Nat → Bool} {j k : Nat} (h : j < k) : colc fr j + 1 + (if fr j then 1 else 0) ≤ colc fr k := by
  induction k with
  | zero => omega
  | succ k ih =>
    by_cases e : j = k
    · subst e; exact Nat.le_refl _
    · have := ih (by omega)
      show _ ≤ colc fr k + 1 + (if fr k then 1 else 0)
      omega
theorem slc_mono {rel : Nat → Int} {c j k : Nat} (h : j < k) : slc rel c j + (if rel j = 2 then 0 else 1) ≤ slc rel c k := by
  induction k with
  | zero => omega
  | succ k ih =>
    by_cases e : j = k
    · subst e; exact Nat.le_refl _
    · have := ih (by omega)
      show _ ≤ slc rel c k + (if rel k = 2 then 0 else 1)
      omega
theorem unc_mono {rel sg : Nat → Int} {u j k : Nat} (h : j < k) : unc rel sg u j + (if ownB (rel j) (sg j) then 0 else 1) ≤ unc rel sg u k := by
  induction k with
  | zero => omega
  | succ k ih =>
    by_cases e : j = k
    · subst e; exact Nat.le_refl _
    · have := ih (by omega)
      show _ ≤ unc rel sg u k + (if ownB (rel k) (sg k) then 0 else 1)
      omega
/-! ## lists of integers -/
def ints (f : Nat → Int) (k : Nat) : List Value := (List.range k).map fun j => .int .i64 (f j)
theorem ints_succ (f : Nat → Int) (k : Nat) : ints f (k + 1) = ints f k ++ [.int .i64 (f k)] := by
  unfold ints; rw [List.range_succ, List.map_append]; rfl
theorem ints_len (f : Nat → Int) (k : Nat) : (ints f k).length = k := by simp [ints]
theorem ints_get {f : Nat → Int} {k i : Nat} (h : i < k) : (ints f k)[i]? = some (.int .i64 (f i)) := by simp [ints, h]
theorem Own.ints {K : Heap} {v : Value} {f : Nat → Int} {k : Nat} (h : Own K v 3 1 k (Eng.ints f k)) : SlV IntP 1 K v ((List.range k).map f) := by
  obtain ⟨A, c, rfl⟩ := h.form
  refine ⟨A, c, _, by rw [List.length_map, List.length_range], ?_, h.rd, ⟨by rw [ints_len, List.length_map, List.length_range, Nat.mul_one], fun i z hz => ?_⟩⟩
  · rw [List.length_map, List.length_range]
    rcases h.2 with ⟨k1, k2⟩ | ⟨g, cap, k1, _, k3, _⟩
    · omega
    · cases k1; exact k3
  · rw [List.getElem?_map] at hz
    have hi : i < k := by
      false_or_by_contra
      rw [List.getElem?_eq_none (by rw [List.length_range]; omega)] at hz; cases hz
    rw [List.getElem?_range hi] at hz
    cases hz
    rw [seg_one (ints_get hi)]; rfl
theorem Own.nats {K : Heap} {v : Value} {f : Nat → Nat} {k : Nat} (h : Own K v 3 1 k (Eng.ints (fun j => (f j : Int)) k)) : SlV NatP 1 K v ((List.range k).map f) := by
  obtain ⟨A, c, xs, h1, h2, h3, h4⟩ := Own.ints h
  rw [List.length_map, List.length_range] at h1 h2
  refine ⟨A, c, xs, by rw [List.length_map, List.length_range]; exact h1, by rw [List.length_map, List.length_range]; exact h2, h3, ⟨by rw [h4.len, List.length_map, List.length_map], fun i z hz => ?_⟩⟩
  rw [List.getElem?_map] at hz
  cases hr : (List.range k)[i]? with
  | none => rw [hr] at hz; cases hz
  | some j =>
    rw [hr] at hz
    cases hz
    exact h4.at_ i (f j : Int) (by rw [List.getElem?_map, hr]; rfl)
/-- Two slices do not share their block. -/
def Apart (v v' : Value) : Prop := ∀ q, v.ownBlock = some q → v'.ownBlock ≠ some q
theorem Apart.symm {v v' : Value} (h : Apart v v') : Apart v' v := fun q h1 h2 => h q h2 h1
/-- Memory in which a list has grown. -/
structure Grew (K0 : Heap) (hdr : Value) (e sz n : Nat) (xs : List Value) (v : Value) (K : Heap) : Prop where
  own : Own K v e sz n xs
  le : Heap.le K0 K
  new : ∀ q, v.ownBlock = some q → hdr.ownBlock = some q ∨ K0 q = none
  keep : ∀ (v' : Value) (e' sz' n' : Nat) (xs' : List Value), Own K0 v' e' sz' n' xs' → Apart hdr v' → Own K v' e' sz' n' xs' ∧ Apart v v'
theorem Own.lift {H : Heap} {gs : List Nat} {v : Value} {e sz n : Nat} {xs : List Value} (h : Own (rem H gs) v e sz n xs) : Own H v e sz n xs ∧ ∀ q, q ∈ gs → v.ownBlock ≠ some q := by
  have h2 : ∀ q, q ∈ gs → v.ownBlock ≠ some q := fun q hq hv => by
    obtain ⟨en, he⟩ := h.block hv
    rw [rem_in hq] at he; cases he
  exact ⟨h.same fun q hq => (rem_out (fun hm => h2 q hm hq)).symm, h2⟩
theorem grew {H1 H3 : Heap} {gs : List Nat} {hdr v3 : Value} {e sz n0 n gb : Nat} {xs0 xs : List Value} {en : Ent} (hne : ∀ q, q ∈ gs → H1 q ≠ none) (hgb : H1 gb = none) (ho : Own (rem H1 gs) hdr e sz n0 xs0) (ha : App (ins H1 gb en) hdr e sz n xs v3 H3) :
    Grew (rem H1 gs) hdr e sz n xs v3 (rem H3 gs) ∧ ∀ q, q ∈ gs → H3 q = H1 q := by
  obtain ⟨hl, hh⟩ := ho.lift
  have hgbs : ¬ gb ∈ gs := fun h => hne gb h hgb
  have hne2 : ∀ q, q ∈ gs → ins H1 gb en q ≠ none := fun q hq => by rw [ins_other _ _ (fun e => hgbs (by rw [← e]; exact hq))]; exact hne q hq
  obtain ⟨ha2, hs⟩ := ha.rem hne2 hh
  rw [rem_ins_out _ hgbs] at ha2
  have hK : rem H1 gs gb = none := by rw [rem_out hgbs]; exact hgb
  refine ⟨⟨ha2.own, (Heap.le_ins _ hK).trans ha2.le, fun q hq => (by
    rcases ha2.at_ with h4 | ⟨g', h4, h5⟩
    · exact .inl (by rw [← h4]; exact hq)
    · rw [h4] at hq
      cases hq
      exact .inr (none_ins h5).2), fun v' e' sz' n' xs' h' hap => ?_⟩, fun q hq => by rw [hs q hq, ins_other _ _ (fun e => hgbs (by rw [← e]; exact hq))]⟩
  have h1 : Own (ins (rem H1 gs) gb en) v' e' sz' n' xs' := h'.ins _ hK
  refine ⟨h1.same fun q hq => ?_, fun q h2 h3 => ?_⟩
  · obtain ⟨en', he'⟩ := h1.block hq
    rw [ha2.same q en' he' (fun h => hap q h hq), he']
  · rcases ha2.at_ with h4 | ⟨g', h4, h5⟩
    · exact hap q (by rw [← h4]; exact h2) h3
    · rw [h4] at h2
      cases h2
      obtain ⟨en', he'⟩ := h1.block h3
      rw [h5] at he'; cases he'
/-- The cells that a closure leaves alone. -/
def kc2 (a1 : Addr) (v1 : Value) (a2 : Addr) (v2 : Value) (ad : Addr) : Option Value := if ad = a1 then some v1 else if ad = a2 then some v2 else none
theorem kc2_cov {a1 a2 : Addr} {v1 v2 : Value} {H : Heap} (h1 : cell H a1 = some v1) (h2 : cell H a2 = some v2) : (Mode.drawK (kc2 a1 v1 a2 v2)).cov H := fun ad v h => by
  have h' : kc2 a1 v1 a2 v2 ad = some v := h
  unfold kc2 at h'
  split at h'
  · rename_i e; rw [e, h1]; exact h'
  · split at h'
    · rename_i e; rw [e, h2]; exact h'
    · cases h'
theorem kc2_a {a1 a2 : Addr} {v1 v2 : Value} : kc2 a1 v1 a2 v2 a1 = some v1 := by simp [kc2]
theorem kc2_b {a1 a2 : Addr} {v1 v2 : Value} (h : a2 ≠ a1) : kc2 a1 v1 a2 v2 a2 = some v2 := by simp [kc2, h]
theorem addr_ne {g g' o o' : Nat} (h : g ≠ g') : (⟨g, o, none⟩ : Addr) ≠ ⟨g', o', none⟩ := fun e => h (by cases e; rfl)
/-- A program. -/
def BoolP (_ : Heap) (vs : List Value) (b : Bool) : Prop := vs = [.bool b]
theorem boolUp : Up BoolP := fun _ _ _ _ _ h => h
def ProgV (N : Nat) (H : Heap) (v : Value) (p : Prg) : Prop := ∃ fv rv, v = .agg #[fv, rv] ∧ SlV BoolP 1 H fv p.free ∧ SlV (RowP N) 5 H rv p.rows
/-! ## the tableau of a program -/
section
variable (p : Prg)
abbrev _root_.Lp.Prg.sgN (i : Nat) : Int := sgi (p.lp.b i) (p.lp.rel i)
abbrev _root_.Lp.Prg.c1 : Nat := colc p.lp.free p.lp.n
abbrev _root_.Lp.Prg.u : Nat := slc p.lp.rel p.c1 p.lp.m
abbrev _root_.Lp.Prg.w : Nat := unc p.lp.rel p.sgN p.u p.lp.m
abbrev _root_.Lp.Prg.unit (i : Nat) : Nat := unt p.lp.rel p.sgN p.c1 p.u i
def _root_.Lp.Prg.lay : TL := ⟨p.w, p.u, (List.range p.lp.n).map (colc p.lp.free), (List.range p.lp.n).map (mnz p.lp.free), (List.range p.lp.m).map p.unit, vals (fun i => (p.sgN i : Rat)) p.lp.m⟩
def _root_.Lp.Prg.tab0 : Tab := ⟨p.lp.m, p.w, fun i => rowF p.lay p.lp.n (p.lp.a i) (p.lp.b i) (p.lp.rel i) (slz p.lp.rel p.c1 i) (p.unit i) (p.sgN i : Rat), fun _ => 0, p.unit⟩
end
end Go.Eng
namespace Go.Eng
theorem hcv_ins {H : Heap} {gv g : Nat} {e : Ent} {v : Value} (h : cell H ⟨gv, 0, none⟩ = some v) (hne : gv ≠ g) : cell (ins H g e) ⟨gv, 0, none⟩ = some v := by
  simp only [cell, ins_other _ _ hne] at h ⊢; exact h
theorem one_int (z : Int) : ∀ u, u ∈ [Value.int .i64 z] → u.oneCell' = true := fun u hu => by rw [List.mem_singleton] at hu; rw [hu]; rfl
theorem ints_set {f : Nat → Int} {m i : Nat} {z : Int} : (ints f m).set i (.int .i64 z) = ints (fun j => if j = i then z else f j) m := by
  apply List.ext_getElem?
  intro j
  by_cases hj : j < m
  · by_cases e : j = i
    · subst e
      rw [List.getElem?_set_self (by rw [ints_len]; exact hj), ints_get hj, if_pos rfl]
    · rw [List.getElem?_set_ne (fun e' => e e'.symm), ints_get hj, ints_get hj, if_neg e]
  · rw [List.getElem?_eq_none (by rw [List.length_set, ints_len]; omega), List.getElem?_eq_none (by rw [ints_len]; omega)]
theorem ints_congr {f g : Nat → Int} {m : Nat} (h : ∀ j, j < m → f j = g j) : ints f m = ints g m := by
  unfold ints
  apply List.map_congr_left
  intro j hj
  rw [h j (List.mem_range.1 hj)]
theorem SlV.row {N : Nat} {H : Heap} {v : Value} {l : List (List Rat × Int × Rat)} (h : SlV (RowP N) 5 H v l) : ∃ A c xs, v = .slice A l.length c ∧ Rd H A xs ∧ ∀ (i : Nat) (r : List Rat × Int × Rat), l[i]? = some r → ∃ A0 c0 f A1 m1 c1 A2 m2 c2, RowP N H [.slice A0 r.1.length c0, .int .i64 r.2.1, .bool f, .slice A1 m1 c1, .slice A2 m2 c2] r ∧ ∀ (j : Nat) (u : Value), [.slice A0 r.1.length c0, .int .i64 r.2.1, .bool f, .slice A1 m1 c1, .slice A2 m2 c2][j]? = some u → xs[i * 5 + j]? = some u := by
  obtain ⟨A, c, xs, h1, _, h3, h4⟩ := h
  refine ⟨A, c, xs, h1, h3, fun i r hr => ?_⟩
  obtain ⟨vs, _, h5, h6⟩ := h4.get hr
  obtain ⟨A0, c0, k, f, A1, m1, c1, A2, m2, c2, rfl, rfl⟩ := h5.cells
  exact ⟨A0, c0, f, A1, m1, c1, A2, m2, c2, h5, h6⟩
theorem RowP.bound {N : Nat} {H : Heap} {r : List Rat × Int × Rat} {v0 : Value} {f : Bool} {u w : Value} (h : RowP N H [v0, .int .i64 r.2.1, .bool f, u, w] r) : RawV H (.agg #[.bool f, u, w]) r.2.2 N := by
  obtain ⟨c, f', u', w', h1, _, h3⟩ := h
  simp only [List.cons.injEq, Value.bool.injEq, and_true, true_and] at h1
  obtain ⟨rfl, rfl, rfl, rfl⟩ := h1
  exact h3
end Go.Eng
namespace Go.Eng
/-- The block of a slice of the call's own. -/
def blk (v : Value) : List Nat := match v.ownBlock with | some q => [q] | none => []
theorem blk_mem {v : Value} {q : Nat} : q ∈ blk v ↔ v.ownBlock = some q := by
  unfold blk
  cases h : v.ownBlock with
  | none => simp
  | some q' => simp; exact eq_comm
theorem kept_own {H H' : Heap} {gs : List Nat} {v : Value} {e sz n : Nat} {xs : List Value} (h : Kept (blk v ++ gs) H H') (ho : Own (rem H gs) v e sz n xs) : Own (rem H' gs) v e sz n xs ∧ Heap.le (rem H gs) (rem H' gs) ∧ ∀ q, q ∈ gs → H' q = H q := by
  have hs : ∀ q, q ∈ blk v ++ gs → H' q = H q := h.same
  have hv := ho.lift.2
  refine ⟨ho.same fun q hq => ?_, fun q en hq => ?_, fun q hq => hs q (List.mem_append_right _ hq)⟩
  · have : ¬ q ∈ gs := fun hm => hv q hm hq
    rw [rem_out this, rem_out this, hs q (List.mem_append_left _ (blk_mem.2 hq))]
  · by_cases hb : q ∈ blk v
    · by_cases hm : q ∈ gs
      · rw [rem_in hm] at hq; cases hq
      · rw [rem_out hm] at hq
        exact ⟨en, by rw [rem_out hm, hs q (List.mem_append_left _ hb)]; exact hq, .refl en⟩
    · by_cases hm : q ∈ gs
      · rw [rem_in hm] at hq; cases hq
      · have hn : ¬ q ∈ blk v ++ gs := fun h => by
          rcases List.mem_append.1 h with h | h
          · exact hb h
          · exact hm h
        obtain ⟨e', h1, h2⟩ := h.le q en (by rw [rem_out hn]; rwa [rem_out hm] at hq)
        exact ⟨e', by rw [rem_out hm]; rwa [rem_out hn] at h1, h2⟩
theorem own_ne {H : Heap} {gs : List Nat} {v : Value} {e sz n : Nat} {xs : List Value} (hne : ∀ q, q ∈ gs → H q ≠ none) (ho : Own (rem H gs) v e sz n xs) : ∀ q, q ∈ blk v ++ gs → H q ≠ none := fun q hq => by
  rcases List.mem_append.1 hq with h | h
  · obtain ⟨en, he⟩ := ho.lift.1.block (blk_mem.1 h)
    rw [he]; simp
  · exact hne q h
theorem own_slot {K : Heap} {v : Value} {e sz n : Nat} {xs : List Value} (h : Own K v e sz n xs) (hn : 0 < n) : ∃ q c, v = .slice (some ⟨q, 0, none⟩) n c ∧ K q = some ⟨xs, c * sz, e, true⟩ := by
  rcases h.2 with ⟨_, h2⟩ | ⟨g, cap, h1, h2, _⟩
  · omega
  · exact ⟨g, cap, h1, h2⟩
theorem le_blk {H H' : Heap} {gs b : List Nat} (h : Heap.le H (rem H' gs)) (hb : ∀ q, q ∈ b → H q = none) : Heap.le H (rem H' (b ++ gs)) := fun q e hq => by
  obtain ⟨e', h1, h2⟩ := h q e hq
  have hm : ¬ q ∈ gs := fun hm => by rw [rem_in hm] at h1; cases h1
  refine ⟨e', ?_, h2⟩
  rw [rem_out (fun h3 => by
    rcases List.mem_append.1 h3 with h3 | h3
    · rw [hb q h3] at hq; cases hq
    · exact hm h3)]
  rwa [rem_out hm] at h1
theorem le_none {H K : Heap} (h : Heap.le H K) {q : Nat} (hq : K q = none) : H q = none := by
  cases hh : H q with
  | none => rfl
  | some e => (obtain ⟨e', h1, _⟩ := h q e hh; rw [hq] at h1; cases h1)
theorem Grew.blk {K0 K H : Heap} {hdr v : Value} {e sz n : Nat} {xs : List Value} (h : Grew K0 hdr e sz n xs v K) (hl : Heap.le H K0) (hb : ∀ q, q ∈ Eng.blk hdr → H q = none) : ∀ q, q ∈ Eng.blk v → H q = none := fun q hq => by
  rcases h.new q (blk_mem.1 hq) with h1 | h1
  · exact hb q (blk_mem.2 h1)
  · exact le_none hl h1
end Go.Eng
/- Rows and basis of a tableau as they grow. -/
namespace Go.Eng
open Go.Proofs Num Lp
/-- The blocks that are set apart: the rows, the basis, the slacks, the struct. -/
def gsI (rg : List (Nat × Nat)) (bv : Value) (gk g : Nat) : List Nat := rg.map (·.1) ++ (blk bv ++ [gk, g])
def gsJ (rg : List (Nat × Nat)) (gk g : Nat) : List Nat := rg.map (·.1) ++ [gk, g]
/-- .. for the call of row. -/
def gsR (rv : Value) (rg : List (Nat × Nat)) (bv : Value) (gk : Nat) : List Nat := blk rv ++ (rg.map (·.1) ++ (blk bv ++ [gk]))
def hdrR (w : Nat) (p : Nat × Nat) : Value := .slice (some ⟨p.1, 0, none⟩) (w + 1) p.2
theorem mem_gsI {rg : List (Nat × Nat)} {bv : Value} {gk g q : Nat} : q ∈ gsI rg bv gk g ↔ q ∈ rg.map (·.1) ∨ q ∈ blk bv ∨ q = gk ∨ q = g := by
  unfold gsI; simp only [List.mem_append, List.mem_cons, List.not_mem_nil, or_false]
theorem mem_gsJ {rg : List (Nat × Nat)} {gk g q : Nat} : q ∈ gsJ rg gk g ↔ q ∈ rg.map (·.1) ∨ q = gk ∨ q = g := by
  unfold gsJ; simp only [List.mem_append, List.mem_cons, List.not_mem_nil, or_false]
theorem mem_gsR {rg : List (Nat × Nat)} {rv bv : Value} {gk q : Nat} : q ∈ gsR rv rg bv gk ↔ q ∈ blk rv ∨ q ∈ rg.map (·.1) ∨ q ∈ blk bv ∨ q = gk := by
  unfold gsR; simp only [List.mem_append, List.mem_cons, List.not_mem_nil, or_false]
structure St6 (K : Heap) (g gk w : Nat) (A : Nat → Nat → Rat) (unit : Nat → Nat) (H : Heap) (rv : Value) (k : Nat) (hd : List Value) (bv : Value) (kb : Nat) (rg : List (Nat × Nat)) : Prop where
  ne : ∀ q, q ∈ gsI rg bv gk g → H q ≠ none
  nd : (gsI rg bv gk g).Nodup
  le : Heap.le K (rem H (gsI rg bv gk g))
  orv : Own (rem H (gsI rg bv gk g)) rv 145 1 k hd
  rvf : ∀ q, q ∈ blk rv → K q = none
  obv : Own H bv 3 1 kb (ints (fun j => (unit j : Int)) kb)
  row : ∀ (j : Nat) (p : Nat × Nat), rg[j]? = some p → BlkN (rem H (gsI rg bv gk g)) H p.1 (vals (A j) (w + 1))
section
variable {K : Heap} {g gk w : Nat} {A : Nat → Nat → Rat} {unit : Nat → Nat} {H H2 : Heap} {rv : Value} {k : Nat} {hd : List Value} {bv : Value} {kb : Nat} {rg : List (Nat × Nat)}
theorem St6.rvn (h : St6 K g gk w A unit H rv k hd bv kb rg) : ∀ q, q ∈ blk rv → ¬ q ∈ gsI rg bv gk g ∧ H q ≠ none := fun q hq => by
  have h1 := h.orv.lift
  refine ⟨fun hm => h1.2 q hm (blk_mem.1 hq), ?_⟩
  obtain ⟨e, he⟩ := h1.1.block (blk_mem.1 hq)
  rw [he]; simp
theorem St6.neR (h : St6 K g gk w A unit H rv k hd bv kb rg) : ∀ q, q ∈ gsR rv rg bv gk → H q ≠ none := fun q hq => by
  rcases mem_gsR.1 hq with h1 | h1 | h1 | h1
  · exact (h.rvn q h1).2
  · exact h.ne q (mem_gsI.2 (.inl h1))
  · exact h.ne q (mem_gsI.2 (.inr (.inl h1)))
  · exact h.ne q (mem_gsI.2 (.inr (.inr (.inl h1))))
theorem nd_apart {rg : List (Nat × Nat)} {bv : Value} {gk g : Nat} (h : (gsI rg bv gk g).Nodup) : ¬ g ∈ rg.map (·.1) ∧ ¬ g ∈ blk bv ∧ gk ≠ g ∧ (∀ q, q ∈ blk bv → ¬ q ∈ rg.map (·.1) ∧ q ≠ gk) ∧ ¬ gk ∈ rg.map (·.1) := by
  unfold gsI at h
  rw [List.nodup_append, List.nodup_append] at h
  obtain ⟨_, ⟨_, h2, h3⟩, h4⟩ := h
  have h5 : gk ≠ g := by
    rw [List.nodup_cons] at h2
    exact fun e => h2.1 (by rw [e]; exact List.mem_singleton.2 rfl)
  refine ⟨fun hm => h4 g hm g (by simp) rfl, fun hm => h3 g hm g (by simp) rfl, h5, fun q hq => ⟨fun hm => h4 q hm q (List.mem_append_left _ hq) rfl, fun e => h3 q hq gk (by simp) e⟩, fun hm => h4 gk hm gk (by simp) rfl⟩
theorem St6.gR (h : St6 K g gk w A unit H rv k hd bv kb rg) : ¬ g ∈ gsR rv rg bv gk := fun hm => by
  obtain ⟨n1, n2, n3, _⟩ := nd_apart h.nd
  rcases mem_gsR.1 hm with h1 | h1 | h1 | h1
  · exact (h.rvn g h1).1 (mem_gsI.2 (.inr (.inr (.inr rfl))))
  · exact n1 h1
  · exact n2 h1
  · exact n3 h1.symm
/-- A row more. -/
theorem St6.addRow (h : St6 K g gk w A unit H rv k hd bv kb rg) {z c : Nat} {xs : List Value} {sz : Nat} (hs : ∀ q, q ∈ gsR rv rg bv gk → H2 q = H q) (hwk : Work [g] (rem H (gsR rv rg bv gk)) (rem H2 (gsR rv rg bv gk)) z xs sz 149)
    (hel : Els (NumV (rem (rem H2 (gsR rv rg bv gk)) (z :: [g]))) 3 xs (vals (A rg.length) (w + 1))) : St6 K g gk w A unit H2 rv k hd bv kb (rg ++ [(z, c)]) ∧ H2 g = H g ∧ H2 gk = H gk := by
  have hgR := h.gR
  have hg2 : H2 g = H g := by
    have := hwk.same g (List.mem_singleton.2 rfl)
    rwa [rem_out hgR, rem_out hgR] at this
  have hgk2 : H2 gk = H gk := hs gk (mem_gsR.2 (.inr (.inr (.inr rfl))))
  have hzR : ¬ z ∈ gsR rv rg bv gk := fun hm => by have := hwk.blk; rw [rem_in hm] at this; cases this
  have hz2 : H2 z = some ⟨xs, sz, 149, true⟩ := by have := hwk.blk; rwa [rem_out hzR] at this
  have hz0 : H z = none := by have := hwk.zn; rwa [rem_out hzR] at this
  have hzg : z ≠ g := fun e => hwk.zg (List.mem_singleton.2 e)
  have hzI : ¬ z ∈ gsI rg bv gk g := fun hm => h.ne z hm hz0
  have hmem : ∀ q, q ∈ gsI (rg ++ [(z, c)]) bv gk g ↔ q = z ∨ q ∈ gsI rg bv gk g := fun q => by
    rw [mem_gsI, mem_gsI, List.map_append, List.mem_append]
    simp only [List.map_cons, List.map_nil, List.mem_singleton]
    constructor
    · rintro ((h | h) | h | h | h)
      · exact .inr (.inl h)
      · exact .inl h
      · exact .inr (.inr (.inl h))
      · exact .inr (.inr (.inr (.inl h)))
      · exact .inr (.inr (.inr (.inr h)))
    · rintro (h | h | h | h | h)
      · exact .inl (.inr h)
      · exact .inl (.inl h)
      · exact .inr (.inl h)
      · exact .inr (.inr (.inl h))
      · exact .inr (.inr (.inr h))
  have hsI : ∀ q, q ∈ gsI rg bv gk g → H2 q = H q := fun q hq => by
    rcases mem_gsI.1 hq with h1 | h1 | h1 | h1
    · exact hs q (mem_gsR.2 (.inr (.inl h1)))
    · exact hs q (mem_gsR.2 (.inr (.inr (.inl h1))))
    · rw [h1]; exact hgk2
    · rw [h1]; exact hg2
  have hrv : ∀ q, q ∈ blk rv → H2 q = H q := fun q hq => hs q (mem_gsR.2 (.inl hq))
  -- memory behind
  have hle : Heap.le (rem H (gsI rg bv gk g)) (rem H2 (gsI (rg ++ [(z, c)]) bv gk g)) := fun q e hq => by
    have hm : ¬ q ∈ gsI rg bv gk g := fun hm => by rw [rem_in hm] at hq; cases hq
    rw [rem_out hm] at hq
    have hqz : q ≠ z := fun e' => by rw [e', hz0] at hq; cases hq
    have hm2 : ¬ q ∈ gsI (rg ++ [(z, c)]) bv gk g := fun hm2 => by
      rcases (hmem q).1 hm2 with h1 | h1
      · exact hqz h1
      · exact hm h1
    by_cases hb : q ∈ blk rv
    · exact ⟨e, by rw [rem_out hm2, hrv q hb]; exact hq, .refl e⟩
    · have hR : ¬ q ∈ gsR rv rg bv gk := fun hR => by
        rcases mem_gsR.1 hR with h1 | h1 | h1 | h1
        · exact hb h1
        · exact hm (mem_gsI.2 (.inl h1))
        · exact hm (mem_gsI.2 (.inr (.inl h1)))
        · exact hm (mem_gsI.2 (.inr (.inr (.inl h1))))
      have hqg : q ≠ g := fun e' => hm (mem_gsI.2 (.inr (.inr (.inr e'))))
      obtain ⟨e', h1, h2⟩ := hwk.le q e (by rw [rem_out (fun h' => hqg (List.mem_singleton.1 h')), rem_out hR]; exact hq)
      have hzg' : ¬ q ∈ z :: [g] := fun h' => by
        rcases List.mem_cons.1 h' with h' | h'
        · exact hqz h'
        · exact hqg (List.mem_singleton.1 h')
      rw [rem_out hzg', rem_out hR] at h1
      exact ⟨e', by rw [rem_out hm2]; exact h1, h2⟩
  have hnum : Heap.le (rem (rem H2 (gsR rv rg bv gk)) (z :: [g])) (rem H2 (gsI (rg ++ [(z, c)]) bv gk g)) := fun q e hq => by
    have h1 : ¬ q ∈ z :: [g] := fun h' => by rw [rem_in h'] at hq; cases hq
    rw [rem_out h1] at hq
    have h2 : ¬ q ∈ gsR rv rg bv gk := fun h' => by rw [rem_in h'] at hq; cases hq
    rw [rem_out h2] at hq
    refine ⟨e, ?_, .refl e⟩
    rw [rem_out]
    · exact hq
    · intro h3
      rcases (hmem q).1 h3 with h4 | h4
      · exact h1 (by rw [h4]; exact List.mem_cons_self ..)
      · rcases mem_gsI.1 h4 with h5 | h5 | h5 | h5
        · exact h2 (mem_gsR.2 (.inr (.inl h5)))
        · exact h2 (mem_gsR.2 (.inr (.inr (.inl h5))))
        · exact h2 (mem_gsR.2 (.inr (.inr (.inr h5))))
        · exact h1 (by rw [h5]; exact List.mem_cons_of_mem _ (List.mem_singleton.2 rfl))
  refine ⟨⟨fun q hq => ?_, ?_, h.le.trans hle, h.orv.same fun q hq => ?_, h.rvf, h.obv.same fun q hq => hsI q (mem_gsI.2 (.inr (.inl (blk_mem.2 hq)))), fun j p hp => ?_⟩, hg2, hgk2⟩
  · rcases (hmem q).1 hq with h1 | h1
    · rw [h1, hz2]; simp
    · rw [hsI q h1]; exact h.ne q h1
  · have hnd := h.nd
    unfold gsI at hnd ⊢
    rw [List.map_append, List.append_assoc, List.nodup_append] at *
    refine ⟨hnd.1, ?_, fun a ha b hb => ?_⟩
    · simp only [List.map_cons, List.map_nil, List.singleton_append, List.nodup_cons]
      exact ⟨fun hm => hzI (by unfold gsI; exact List.mem_append_right _ hm), hnd.2.1⟩
    · simp only [List.map_cons, List.map_nil, List.singleton_append, List.mem_cons] at hb
      rcases hb with hb | hb
      · intro e
        exact hzI (by unfold gsI; rw [← hb, ← e]; exact List.mem_append_left _ ha)
      · exact hnd.2.2 a ha b (by simpa using hb)
  · have h1 := h.rvn q (blk_mem.2 hq)
    have hqz : q ≠ z := fun e => h1.2 (by rw [e]; exact hz0)
    rw [rem_out h1.1, rem_out (fun h2 => by
      rcases (hmem q).1 h2 with h3 | h3
      · exact hqz h3
      · exact h1.1 h3), hrv q (blk_mem.2 hq)]
  · by_cases hj : j < rg.length
    · rw [List.getElem?_append_left hj] at hp
      exact (h.row j p hp).le hle (hsI _ (mem_gsI.2 (.inl (List.mem_map.2 ⟨p, List.mem_of_getElem? hp, rfl⟩))))
    · rw [List.getElem?_append_right (by omega)] at hp
      have hj0 : j - rg.length = 0 := by
        have := (List.getElem?_eq_some_iff.1 hp).1
        simp at this; omega
      rw [hj0] at hp
      simp only [List.getElem?_cons_zero, Option.some.injEq] at hp
      subst hp
      have : j = rg.length := by omega
      rw [this]
      exact ⟨xs, sz, hz2, hel.mono fun vs a => numUp _ _ vs a hnum⟩
/-- The header of the rows has grown. -/
theorem St6.growR (h : St6 K g gk w A unit H rv k hd bv kb rg) {rv' : Value} {k' : Nat} {hd' : List Value} (hG : Grew (rem H (gsI rg bv gk g)) rv 145 1 k' hd' rv' (rem H2 (gsI rg bv gk g))) (hs : ∀ q, q ∈ gsI rg bv gk g → q ≠ g → H2 q = H q) (hg : H2 g ≠ none) : St6 K g gk w A unit H2 rv' k' hd' bv kb rg := by
  obtain ⟨n1, n2, n3, n4, n5⟩ := nd_apart h.nd
  refine ⟨fun q hq => ?_, h.nd, h.le.trans hG.le, hG.own, hG.blk h.le h.rvf, h.obv.same fun q hq => ?_, fun j p hp => ?_⟩
  · by_cases e : q = g
    · rw [e]; exact hg
    · rw [hs q hq e]; exact h.ne q hq
  · have := blk_mem.2 hq
    exact hs q (mem_gsI.2 (.inr (.inl this))) (fun e => n2 (by rw [← e]; exact this))
  · have hm : p.1 ∈ rg.map (·.1) := List.mem_map.2 ⟨p, List.mem_of_getElem? hp, rfl⟩
    exact (h.row j p hp).le hG.le (hs _ (mem_gsI.2 (.inl hm)) (fun e => n1 (by rw [← e]; exact hm)))
/-- The basis has grown. -/
theorem St6.growB (h : St6 K g gk w A unit H rv k hd bv kb rg) {bv' : Value} (hG : Grew (rem H (gsJ rg gk g)) bv 3 1 (kb + 1) (ints (fun j => (unit j : Int)) (kb + 1)) bv' (rem H2 (gsJ rg gk g))) (hs : ∀ q, q ∈ gsJ rg gk g → q ≠ g → H2 q = H q) (hg : H2 g ≠ none) : St6 K g gk w A unit H2 rv k hd bv' (kb + 1) rg := by
  obtain ⟨n1, n2, n3, n4, n5⟩ := nd_apart h.nd
  have hJI : ∀ q, q ∈ gsJ rg gk g → q ∈ gsI rg bv gk g := fun q hq => by
    rcases mem_gsJ.1 hq with h1 | h1 | h1
    · exact mem_gsI.2 (.inl h1)
    · exact mem_gsI.2 (.inr (.inr (.inl h1)))
    · exact mem_gsI.2 (.inr (.inr (.inr h1)))
  have hneJ : ∀ q, q ∈ gsJ rg gk g → H2 q ≠ none := fun q hq => by
    by_cases e : q = g
    · rw [e]; exact hg
    · rw [hs q hq e]; exact h.ne q (hJI q hq)
  have hb' := hG.own.lift
  have hbJ : ∀ q, q ∈ blk bv' → ¬ q ∈ gsJ rg gk g := fun q hq hm => hb'.2 q hm (blk_mem.1 hq)
  have hnew : ∀ q, q ∈ blk bv' → q ∈ blk bv ∨ H q = none := fun q hq => by
    rcases hG.new q (blk_mem.1 hq) with h1 | h1
    · exact .inl (blk_mem.2 h1)
    · exact .inr (by rwa [rem_out (hbJ q hq)] at h1)
  have hle : Heap.le (rem H (gsI rg bv gk g)) (rem H2 (gsI rg bv' gk g)) := fun q e hq => by
    have hm : ¬ q ∈ gsI rg bv gk g := fun hm => by rw [rem_in hm] at hq; cases hq
    rw [rem_out hm] at hq
    have hJ : ¬ q ∈ gsJ rg gk g := fun h1 => hm (hJI q h1)
    obtain ⟨e', h1, h2⟩ := hG.le q e (by rw [rem_out hJ]; exact hq)
    rw [rem_out hJ] at h1
    refine ⟨e', ?_, h2⟩
    rw [rem_out]
    · exact h1
    · intro h3
      rcases mem_gsI.1 h3 with h4 | h4 | h4
      · exact hm (mem_gsI.2 (.inl h4))
      · rcases hnew q h4 with h5 | h5
        · exact hm (mem_gsI.2 (.inr (.inl h5)))
        · rw [h5] at hq; cases hq
      · exact hm (mem_gsI.2 (.inr (.inr h4)))
  have hrvJ : Own (rem H (gsJ rg gk g)) rv 145 1 k hd := h.orv.same fun q hq => by
    have h1 := (h.rvn q (blk_mem.2 hq)).1
    rw [rem_out h1, rem_out (fun h2 => h1 (hJI q h2))]
  have hap : Apart bv rv := fun q h1 h2 => (h.rvn q (blk_mem.2 h2)).1 (mem_gsI.2 (.inr (.inl (blk_mem.2 h1))))
  obtain ⟨hrv2, hap2⟩ := hG.keep _ _ _ _ _ hrvJ hap
  refine ⟨fun q hq => ?_, ?_, h.le.trans hle, hrv2.same fun q hq => ?_, h.rvf, hb'.1, fun j p hp => ?_⟩
  · rcases mem_gsI.1 hq with h1 | h1 | h1
    · exact hneJ q (mem_gsJ.2 (.inl h1))
    · obtain ⟨e, he⟩ := hb'.1.block (blk_mem.1 h1)
      rw [he]; simp
    · exact hneJ q (mem_gsJ.2 (.inr h1))
  · have hnd := h.nd
    unfold gsI at hnd ⊢
    rw [List.nodup_append, List.nodup_append] at *
    refine ⟨hnd.1, ⟨?_, hnd.2.1.2.1, fun a ha b hb e => ?_⟩, fun a ha b hb e => ?_⟩
    · unfold blk; split <;> simp
    · refine hbJ a ha (mem_gsJ.2 (.inr ?_))
      rw [e]; simpa using hb
    · rcases List.mem_append.1 hb with h1 | h1
      · exact hbJ b h1 (mem_gsJ.2 (.inl (by rw [← e]; exact ha)))
      · exact hnd.2.2 a ha b (List.mem_append_right _ h1) e
  · have h1 : ¬ q ∈ gsJ rg gk g := fun h1 => hrv2.lift.2 q h1 hq
    rw [rem_out h1, rem_out]
    intro h2
    rcases mem_gsI.1 h2 with h3 | h3 | h3
    · exact h1 (mem_gsJ.2 (.inl h3))
    · exact hap2 q (blk_mem.1 h3) hq
    · exact h1 (mem_gsJ.2 (.inr h3))
  · have hm : p.1 ∈ rg.map (·.1) := List.mem_map.2 ⟨p, List.mem_of_getElem? hp, rfl⟩
    exact (h.row j p hp).le hle (hs _ (mem_gsJ.2 (.inl hm)) (fun e => n1 (by rw [← e]; exact hm)))
theorem St6.bvJ (h : St6 K g gk w A unit H rv k hd bv kb rg) : Own (rem H (gsJ rg gk g)) bv 3 1 kb (ints (fun j => (unit j : Int)) kb) := by
  obtain ⟨n1, n2, n3, n4, n5⟩ := nd_apart h.nd
  refine h.obv.same fun q hq => ?_
  have hb := blk_mem.2 hq
  rw [rem_out]
  intro h1
  rcases mem_gsJ.1 h1 with h2 | h2 | h2
  · exact (n4 q hb).1 h2
  · exact (n4 q hb).2 h2
  · exact n2 (by rw [← h2]; exact hb)
theorem St6.leR (h : St6 K g gk w A unit H rv k hd bv kb rg) : Heap.le K (rem (rem H (gsR rv rg bv gk)) [g]) := fun q e hq => by
  obtain ⟨e', h1, h2⟩ := h.le q e hq
  have hm : ¬ q ∈ gsI rg bv gk g := fun hm => by rw [rem_in hm] at h1; cases h1
  rw [rem_out hm] at h1
  refine ⟨e', ?_, h2⟩
  rw [rem_out (fun h3 => hm (mem_gsI.2 (.inr (.inr (.inr (List.mem_singleton.1 h3)))))), rem_out]
  · exact h1
  · intro h3
    rcases mem_gsR.1 h3 with h4 | h4 | h4 | h4
    · rw [h.rvf q h4] at hq; cases hq
    · exact hm (mem_gsI.2 (.inl h4))
    · exact hm (mem_gsI.2 (.inr (.inl h4)))
    · exact hm (mem_gsI.2 (.inr (.inr (.inl h4))))
end
end Go.Eng
/- The layout's bounds; the finished tableau. -/
namespace Go.Eng
open Go.Proofs Num Lp
section
variable (p : Prg)
theorem lay_pF {j : Nat} (h : j < p.lp.n) : p.lay.pF j = colc p.lp.free j := by
  simp [TL.pF, Prg.lay, List.getD, h]
theorem lay_mZ {j : Nat} (h : j < p.lp.n) : p.lay.mZ j = mnz p.lp.free j := by
  simp [TL.mZ, Prg.lay, List.getD, h]
theorem c1_u : p.c1 ≤ p.u := (slc_le p.lp.rel p.c1 p.lp.m).2
theorem u_w : p.u ≤ p.w := (unc_le p.lp.rel p.sgN p.u p.lp.m).2
theorem colc_lt {j : Nat} (h : j < p.lp.n) : colc p.lp.free j < p.c1 := by
  have := colc_mono (fr := p.lp.free) h
  have e : p.c1 = colc p.lp.free p.lp.n := rfl
  omega
theorem mnz_lt {j : Nat} (h : j < p.lp.n) : mnz p.lp.free j < p.c1 := by
  have := colc_mono (fr := p.lp.free) h
  have e : p.c1 = colc p.lp.free p.lp.n := rfl
  unfold mnz
  by_cases hf : p.lp.free j
  · rw [if_pos hf] at this ⊢; omega
  · rw [if_neg hf]; omega
theorem slz_lt {i : Nat} (h : i < p.lp.m) (hr : p.lp.rel i ≠ 2) : (p.c1 : Int) ≤ slz p.lp.rel p.c1 i ∧ slz p.lp.rel p.c1 i < p.u := by
  have h1 := slc_mono (rel := p.lp.rel) (c := p.c1) h
  have h2 := (slc_le p.lp.rel p.c1 i).2
  rw [if_neg hr] at h1
  have e : p.u = slc p.lp.rel p.c1 p.lp.m := rfl
  unfold slz
  rw [if_neg hr]; omega
theorem unit_lt {i : Nat} (h : i < p.lp.m) : p.unit i < p.w := by
  have h3 := u_w p
  show unt _ _ _ _ _ < _
  unfold unt
  by_cases ho : ownB (p.lp.rel i) (p.sgN i) = true
  · rw [if_pos ho]
    have hr : p.lp.rel i ≠ 2 := by
      unfold ownB at ho
      rw [decide_eq_true_eq] at ho
      omega
    have := slz_lt p h hr
    unfold slz at this
    rw [if_neg hr] at this
    omega
  · rw [if_neg ho]
    have := unc_mono (rel := p.lp.rel) (sg := p.sgN) (u := p.u) h
    rw [if_neg ho] at this
    have e : p.w = unc p.lp.rel p.sgN p.u p.lp.m := rfl
    omega
theorem w_le : p.w ≤ 2 * p.lp.n + 2 * p.lp.m := by
  have h1 := (unc_le p.lp.rel p.sgN p.u p.lp.m).1
  have h2 := (slc_le p.lp.rel p.c1 p.lp.m).1
  have h3 := colc_le p.lp.free p.lp.n
  have e1 : p.w = unc p.lp.rel p.sgN p.u p.lp.m := rfl
  have e2 : p.u = slc p.lp.rel p.c1 p.lp.m := rfl
  have e3 : p.c1 = colc p.lp.free p.lp.n := rfl
  omega
/-- A row of the first tableau, by the program's row. -/
theorem tab0_row {i : Nat} {r : List Rat × Int × Rat} (h : p.rows[i]? = some r) : p.tab0.A i = rowF p.lay p.lp.n (fn r.1) r.2.2 r.2.1 (slz p.lp.rel p.c1 i) (p.unit i) (p.sgN i : Rat) := by
  show rowF p.lay p.lp.n (fn (p.row i).1) (p.row i).2.2 (p.row i).2.1 _ _ _ = _
  rw [Prg.row_get h]
end
theorem St6.tab {K H : Heap} {g gk : Nat} {p : Prg} {rv bv pv mv uv sv : Value} {rg : List (Nat × Nat)} (h : St6 K g gk p.w p.tab0.A p.unit H rv p.lp.m (rg.map (hdrR p.w)) bv p.lp.m rg) (hl : rg.length = p.lp.m)
    (hg : H g = some ⟨[.int .i64 (p.w : Int), .int .i64 (p.u : Int), pv, mv, uv, sv, rv, .slice none 0 0, bv], 9, 155, true⟩) (hpv : SlV NatP 1 K pv p.lay.plus) (hmv : SlV IntP 1 K mv p.lay.minus) (huv : SlV NatP 1 K uv p.lay.units) (hsv : SlV NumV 3 K sv p.lay.signs) :
    ∃ G : TG, Value.pointer (some ⟨g, 0, none⟩) = .pointer (some ⟨G.g, 0, none⟩) ∧ TabV H G p.lay p.tab0 ∧ G.cb = [] ∧ Heap.le K (rem H G.gs) := by
  obtain ⟨Ar, cr, rfl⟩ := h.orv.form
  obtain ⟨n1, n2, n3, n4, n5⟩ := nd_apart h.nd
  have hnd := h.nd
  unfold gsI at hnd
  rw [List.nodup_append, List.nodup_append] at hnd
  let G : TG := ⟨g, cr, Ar, pv, mv, uv, sv, .slice none 0 0, bv, rg, [], blk bv⟩
  have hmem : ∀ q, q ∈ G.gs → q ∈ gsI rg bv gk g := fun q hq => by
    rcases List.mem_cons.1 hq with h1 | h1
    · exact mem_gsI.2 (.inr (.inr (.inr h1)))
    · rcases List.mem_append.1 h1 with h2 | h2
      · cases h2
      · rcases List.mem_append.1 h2 with h3 | h3
        · exact mem_gsI.2 (.inr (.inl h3))
        · exact mem_gsI.2 (.inl h3)
  have hle : Heap.le (rem H (gsI rg bv gk g)) (rem H G.gs) := fun q e hq => by
    have hm : ¬ q ∈ gsI rg bv gk g := fun hm => by rw [rem_in hm] at hq; cases hq
    rw [rem_out hm] at hq
    exact ⟨e, by rw [rem_out (fun h' => hm (hmem q h'))]; exact hq, .refl e⟩
  have hK := h.le.trans hle
  refine ⟨G, rfl, ⟨rfl, u_w p, hg, ?_, hl, ⟨_, h.orv.rd.le hle, fun i q hq => ?_⟩, fun i q hq => (h.row i q hq).le hle rfl, ?_, hpv.le natUp hK, hmv.le intUp hK, huv.le natUp hK, hsv.le numUp hK, fun q hq => by cases hq⟩, rfl, hK⟩
  · show (g :: ([] ++ (blk bv ++ rg.map (·.1)))).Nodup
    rw [List.nil_append, List.nodup_cons, List.nodup_append]
    refine ⟨fun hm => ?_, hnd.2.1.1, hnd.1, fun a ha b hb e => (n4 a ha).1 (by rw [e]; exact hb)⟩
    rcases List.mem_append.1 hm with h1 | h1
    · exact n2 h1
    · exact n1 h1
  · rw [List.getElem?_map, show rg[i]? = some q from hq]; rfl
  · rcases h.obv.2 with ⟨h1, h2⟩ | ⟨gb, cb, h1, h2, _⟩
    · refine .inl ⟨h2, ?_, h1⟩
      show blk bv = []
      rw [h1]; rfl
    · refine .inr ⟨gb, cb, _, ?_, h1, h2⟩
      show blk bv = [gb]
      rw [h1]; rfl
theorem St6.new {H : Heap} {g gk w : Nat} {A : Nat → Nat → Rat} {unit : Nat → Nat} (hne : ∀ q, q ∈ [gk, g] → H q ≠ none) (h : gk ≠ g) : St6 (rem H [gk, g]) g gk w A unit H (.slice none 0 0) 0 [] (.slice none 0 0) 0 [] :=
  ⟨hne, (by show [gk, g].Nodup; simp [h]), .refl _, own_nil _ _ _, (fun q hq => by cases hq), own_nil _ _ _, (fun j p hp => by simp at hp)⟩
theorem Own.nums {K K' : Heap} {v : Value} {f : Nat → Rat} {k : Nat} {ys : List Value} (h : Own K v 149 3 k ys) (hy : ∀ K : Heap, Els (NumV K) 3 ys (vals f k)) (hl : Heap.le K K') : SlV NumV 3 K' v (vals f k) := by
  obtain ⟨A, c, rfl⟩ := h.form
  refine ⟨A, c, _, by rw [vals_len], ?_, h.rd.le hl, hy _⟩
  rw [vals_len]
  rcases h.2 with ⟨k1, k2⟩ | ⟨g, cap, k1, _, k3, _⟩
  · omega
  · cases k1; exact k3
theorem sz_sign {s : Int} (h : s = 1 ∨ s = -1) : szQ (s : Rat) ≤ 1 := by
  rcases h with h | h <;> subst h <;> decide
theorem one_sl (A : Option Addr) (k c : Nat) : ∀ u, u ∈ [Value.slice A k c] → u.oneCell' = true := fun u hu => by rw [List.mem_singleton] at hu; rw [hu]; rfl
end Go.Eng
