/- Part 3 of the proof: Nat9, Nat10, Nat11, Q, RDat, Rat1, Rat2, Rat3, Eng12, SDat. -/
import Derived.Test.YtfjncmjbhfdnpaaGreatA02
set_option linter.unusedVariables false
/- Walks over package rational, nat.go, part 9: a digit of the quotient. -/
namespace Go.Eng
open Go.Proofs Num
theorem rd_win (H : Heap) (g : Nat) (lo w hi : List Nat) (N : Nat) : Rd (ins H g (uent (lo ++ w ++ hi) N)) (some ⟨g, lo.length, none⟩) (U w) := fun i v hv => by
  refine ⟨_, rfl, ?_⟩
  have hlt : i < (U w).length := (List.getElem?_eq_some_iff.1 hv).1
  have e : (⟨g, lo.length, none⟩ : Addr).add i = ⟨g, lo.length + i, none⟩ := by
    unfold Addr.add; split
    · rename_i e0; rw [e0, Nat.add_zero]
    · rfl
  rw [e]
  simp only [cell, ins_same, uent]
  rw [U_append, U_append, List.append_assoc, List.getElem?_append_right (by rw [U_length]; omega), U_length, Nat.add_sub_cancel_left, List.getElem?_append_left hlt]
  exact hv
theorem set_win {H : Heap} {g N k : Nat} {lo w hi : List Nat} {a : Int} {y : Nat} (h : a = y) (hk : k < w.length) : ins (ins H g (uent (lo ++ w ++ hi) N)) g { uent (lo ++ w ++ hi) N with xs := splice (uent (lo ++ w ++ hi) N).xs (lo.length + k * 1) [.int .u32 a] } = ins H g (uent (lo ++ w.set k y ++ hi) N) := by
  subst h
  rw [ins_ins]
  simp only [uent, splice, Nat.mul_one]
  congr 2
  rw [U_set]
  congr 1
  rw [List.append_assoc, List.set_append_right _ _ (by omega), Nat.add_sub_cancel_left, List.set_append_left _ _ hk, List.append_assoc]
theorem drop_at {a b : List Nat} {i : Nat} (h : a.drop i = b.drop i) : a[i]? = b[i]? := by
  have := congrArg (·[0]?) h
  simpa using this
theorem drop_set {a b : List Nat} {i y : Nat} (h : a.drop i = b.drop i) : (a.set i y).drop (i + 1) = b.drop (i + 1) := by
  rw [List.drop_set_of_lt (Nat.lt_succ_self _)]
  have := congrArg (List.drop 1) h
  simpa [List.drop_drop] using this
theorem quotientLimb_ok {H : Heap} {g N : Nat} {lo w hi b : List Nat} {c c' top : Nat} {A' : Option Addr} (hg : H g = none) (hr : Rd H A' (U b)) (hwl : w.length = b.length + 1) (hb2 : 2 ≤ b.length) (hbs : (b.length : Int) ≤ 8796093022208) (hlw : Lt w) (hlb : Lt b) (htop : b[b.length - 1]? = some top) (htop0 : 0 < top) (hq : val w < B * val b) :
  Fn Tryz.prog 225 #[.slice (some ⟨g, lo.length, none⟩) (b.length + 1) c, .slice A' b.length c'] (ins H g (uent (lo ++ w ++ hi) N)) (fun v H' => ∃ w', H' = ins H g (uent (lo ++ w' ++ hi) N) ∧ w'.length = w.length ∧ Lt w' ∧ val w' = val w % val b ∧ v = .int .u32 ((val w / val b : Nat) : Int)) := by
 obtain ⟨k, hk⟩ : ∃ k, b.length = k + 2 := ⟨b.length - 2, by omega⟩
 have hrb := fun e => hr.le (Heap.le_ins (g := g) e hg)
 have hj1 : ((b.length : Int) - 1).toNat = k + 1 := by omega
 have hj2 : ((b.length : Int) - 2).toNat = k := by omega
 rw [show b.length - 1 = k + 1 by omega] at htop
 obtain ⟨next, hnext⟩ : ∃ x, b[k]? = some x := ⟨_, List.getElem?_eq_getElem (by omega)⟩
 obtain ⟨u2, hu2⟩ : ∃ x, w[k]? = some x := ⟨_, List.getElem?_eq_getElem (by omega)⟩
 obtain ⟨u1, hu1⟩ : ∃ x, w[k + 1]? = some x := ⟨_, List.getElem?_eq_getElem (by omega)⟩
 obtain ⟨un, hun⟩ : ∃ x, w[b.length]? = some x := ⟨_, List.getElem?_eq_getElem (by omega)⟩
 have htB := hlb.get htop
 have hnB := hlb.get hnext
 have hu2B := hlw.get hu2
 have hu1B := hlw.get hu1
 have hunB := hlw.get hun
 have hV := val_top1 hk hnext htop
 have hW := val_top2 (by omega) hu2 hu1 (by rw [← hk]; exact hun)
 have hvl := take_lt hlb (k := k) (by omega)
 have hwl0 := take_lt hlw (k := k) (by omega)
 have hhead := kn_head hV hW hvl hnB hq
 have hVlt := val_lt hlb
 have hV0 : 0 < val b := by
  rcases Nat.eq_zero_or_pos (val b) with e | e
  · rw [e, Nat.mul_zero] at hq; omega
  · exact e
 have hqB : val w / val b < B := Nat.div_lt_of_lt_mul (by rwa [Nat.mul_comm] at hq)
 obtain ⟨q, hqd⟩ : ∃ q, q = val w / val b := ⟨_, rfl⟩
 rw [← hqd] at hqB ⊢
 have hWn : val w = val (w.take b.length) + B ^ b.length * un := by rw [← val_take_succ hun, List.take_of_length_le (by omega)]
 have hB := B_eq
 rw [B_eq] at htB hnB hu2B hu1B hunB; refine fn_intro (args := [_, _]) Tryz.func225 rfl rfl Tryz.ntmps225 rfl rfl fun w0 => ?_; refine vc_keep [0, 1] rfl ?_; refine vc_sr ?_; refine vr 1 ?_; refine vco_k [0, 1] ?_; refine vc_sr ?_; refine vr 3 ?_; refine vco_k [0, 1, 5] ?_; refine vc_sd .drawB [0, 1, 2, 3, 4, 5, 6, 7, 8, 9, 10, 11, 12, 13] follows (by kernel_rfl) ?_; refine vr 2 ?_; refine vco_sub rfl rfl ⟨by omega, by omega⟩ ?_; refine vco_at tbOk rfl rfl rfl rfl rfl (hrb _) (by rw [hj1]; exact U_get htop) (by omega) (by omega) fun _ => ?_; refine vco_conv tbOk rfl rfl rfl ⟨by omega, by omega⟩ ?_; refine vr 2 ?_; refine vco_sub rfl rfl ⟨by omega, by omega⟩ ?_; refine vco_at tbOk rfl rfl rfl rfl rfl (hrb _) (by rw [hj2]; exact U_get hnext) (by omega) (by omega) fun _ => ?_; refine vco_conv tbOk rfl rfl rfl ⟨by omega, by omega⟩ ?_; refine vr 2 ?_; refine vco_k [0, 1, 5, 6, 7] ?_; refine vc_sd .drawB [0, 1, 2, 3, 4, 5, 6, 7, 8, 9, 10, 11, 12, 13] follows (by kernel_rfl) ?_; refine vr 2 ?_; refine vco_at tbOk rfl rfl rfl rfl rfl (rd_win _ _ _ _ _ _) (U_get hun) (by omega) (by omega) fun _ => ?_; refine vco_conv tbOk rfl rfl rfl ⟨by omega, by omega⟩ ?_; refine vco_mul rfl rfl ⟨by omega, by omega⟩ ?_; refine vr 2 ?_; refine vco_sub rfl rfl ⟨by omega, by omega⟩ ?_; refine vco_at tbOk rfl rfl rfl rfl rfl (rd_win _ _ _ _ _ _) (by rw [hj1]; exact U_get hu1) (by omega) (by omega) fun _ => ?_
 refine vco_conv tbOk rfl rfl rfl ⟨by omega, by omega⟩ ?_; refine vco_add rfl rfl ⟨by omega, by omega⟩ ?_; refine vr 1 ?_; refine vco_k [0, 1, 5, 6, 7, 8] ?_; have hg0 : 0 ≤ ((un : Int) * 1000000000 + (u1 : Int)) / (top : Int) := Int.ediv_nonneg (by omega) (by omega); have hg1 : ((un : Int) * 1000000000 + (u1 : Int)) / (top : Int) ≤ (un : Int) * 1000000000 + (u1 : Int) := Int.ediv_le_self _ (by omega); refine vc_sd .drawB [0, 1, 2, 3, 4, 5, 6, 7] follows (by kernel_rfl) ?_; refine vr 2 ?_; refine vco_quo rfl rfl (by omega) (by omega) ⟨by omega, by omega⟩ ?_; refine vr 2 ?_; refine vco_rem rfl rfl (by omega) (by omega) ?_; refine vr 2 ?_; refine vco_k [0, 1, 5, 6, 7, 9, 10] ?_; refine vc_cut1 (fun (guess : Nat) => put (put (put (put (emp) 0 (.val (.slice (some ⟨g, lo.length, none⟩) (b.length + 1) c))) 1 (.val (.slice A' b.length c'))) 5 (.val (.int .i64 (b.length : Int)))) 9 (.val (.int .u64 (guess : Int)))) (fun (guess : Nat) H' => H' = ins H g (uent (lo ++ w ++ hi) N) ∧ q ≤ guess ∧ guess ≤ q + 1 ∧ guess < 1000000000) ?_ ?_
 ·
  refine vc_block ?_
  refine vc_loop2 (fun (guess : Nat) (rest : Nat) => guess) (fun (guess : Nat) (rest : Nat) => put (put (put (put (put (put (put (emp) 0 (.val (.slice (some ⟨g, lo.length, none⟩) (b.length + 1) c))) 1 (.val (.slice A' b.length c'))) 5 (.val (.int .i64 (b.length : Int)))) 6 (.val (.int .u64 (top : Int)))) 7 (.val (.int .u64 (next : Int)))) 9 (.val (.int .u64 (guess : Int)))) 10 (.val (.int .u64 (rest : Int)))) (fun (guess : Nat) (rest : Nat) H' => H' = ins H g (uent (lo ++ w ++ hi) N) ∧ guess * top + rest = un * B + u1 ∧ q ≤ guess ∧ guess ≤ un * 1000000000 + u1 ∧ rest ≤ 2000000000) ((un * 1000000000 + u1) / top) ((un * 1000000000 + u1) % top) (⟨rfl, by rw [B_eq, Nat.mul_comm]; exact Nat.div_add_mod _ _, by
   have h1 := Nat.div_add_mod (un * B + u1) top; have h2 := Nat.mod_lt (un * B + u1) htop0
   have h3 : val w < ((un * B + u1) / top + 1) * val b := by
    have e1 : B ^ k * (B * (un * B + u1)) + B ^ k * B ≤ B ^ k * (B * (((un * B + u1) / top + 1) * top)) := by
     rw [← Nat.mul_add]; refine Nat.mul_le_mul_left _ ?_; rw [← Nat.mul_succ]; refine Nat.mul_le_mul_left _ ?_; rw [Nat.add_mul, Nat.one_mul, Nat.mul_comm _ top]; omega
    have e2 : ((un * B + u1) / top + 1) * (B ^ k * (B * top)) ≤ ((un * B + u1) / top + 1) * val b := Nat.mul_le_mul_left _ (by rw [hV, Nat.mul_add (B ^ k)]; omega)
    have e3 : ((un * B + u1) / top + 1) * (B ^ k * (B * top)) = B ^ k * (B * (((un * B + u1) / top + 1) * top)) := by rw [Nat.mul_left_comm _ (B ^ k), Nat.mul_left_comm _ B]
    have e4 : val w < B ^ k * (B * (un * B + u1)) + B ^ k * B := by
     have : B ^ k * (u2 + 1) ≤ B ^ k * B := Nat.mul_le_mul_left _ (by omega); rw [hW, Nat.mul_add (B ^ k)]; rw [Nat.mul_add (B ^ k)] at this; omega
    omega
   have h4 := kn_gt hqd h3
   rw [B_eq] at h4; omega, Nat.div_le_self _ _, by have := Nat.mod_lt (un * 1000000000 + u1) htop0; omega⟩) sub_auto ?_
  rintro guess rest H1 ⟨rfl, hg2, hqg, hgu, hrs⟩; refine vc_seq ?_
  by_cases hrB : rest < 1000000000
  by_cases hgB : guess < 1000000000
  ·
   skip
   refine vc_sr ?_; refine vr 1 ?_; refine vco_cmp true rfl rfl (clt_t (by omega)) ?_; refine vr 2 ?_; refine vco_cmp false rfl rfl (cge_f (by omega)) ?_; refine vr 3 ?_; have hgn : guess * next ≤ 999999999 * 999999999 := Nat.mul_le_mul (by omega) (by omega)
   have hgn2 : (guess : Int) * (next : Int) = ((guess * next : Nat) : Int) := by simp
   refine vco_mul rfl rfl ⟨by omega, by omega⟩ ?_; refine vr 1 ?_; refine vco_mul rfl rfl ⟨by omega, by omega⟩ ?_; refine vr 2 ?_; refine vco_sub rfl rfl ⟨by omega, by omega⟩ ?_; refine vco_at tbOk rfl rfl rfl rfl rfl (rd_win _ _ _ _ _ _) (by rw [hj2]; exact U_get hu2) (by omega) (by omega) fun _ => ?_; refine vco_conv tbOk rfl rfl rfl ⟨by omega, by omega⟩ ?_; refine vco_add rfl rfl ⟨by omega, by omega⟩ ?_; refine vr 3 ?_; refine vco_k [0, 1, 5, 6, 7, 9, 10, 71] ?_; refine vc_cond rfl (fun hb => ?_) (fun hb => ?_)
   ·
    have hb : rest * 1000000000 + u2 < guess * next := by simp at hb; omega
    have hgt := kn_gt hqd (kn_dec hV hW hwl0 hg2 (by rw [B_eq]; omega)); refine vc_skip ?_; refine vc_keep [0, 1, 5, 6, 7, 9, 10] rfl ?_; refine vc_block ?_; refine vc_sr ?_; refine vr 1 ?_; refine vco_sub rfl rfl ⟨by omega, by omega⟩ ?_; refine vr 1 ?_; refine vco_k [0, 1, 5, 6, 7, 9, 10] ?_; refine vc_region rfl ?_; refine vr 2 ?_; refine vco_add rfl rfl ⟨by omega, by omega⟩ ?_; refine vr 1 ?_; refine vco_end ?_; exact ⟨guess - 1, rest + top, by omega, sub_auto, rfl, kn_down hg2 (by omega), by omega, by omega, by omega⟩
   ·
    have hb : guess * next ≤ rest * 1000000000 + u2 := by simp at hb; omega
    refine vc_exit ?_; exact ⟨guess, sub_auto, rfl, hqg, kn_two hqd hV0 (kn_small hV hW hvl htop0 hg2 (by rw [B_eq]; omega) (by omega)), hgB⟩
  ·
   skip
   refine vc_sr ?_; refine vr 1 ?_; refine vco_cmp true rfl rfl (clt_t (by omega)) ?_; refine vr 2 ?_; refine vco_cmp true rfl rfl (cge_t (by omega)) ?_; refine vr 16 ?_; refine vco_k [0, 1, 5, 6, 7, 9, 10, 71] ?_; refine vc_cond_t rfl ?_; refine vc_skip ?_; refine vc_keep [0, 1, 5, 6, 7, 9, 10] rfl ?_; refine vc_block ?_; refine vc_sr ?_; refine vr 1 ?_; refine vco_sub rfl rfl ⟨by omega, by omega⟩ ?_; refine vr 1 ?_; refine vco_k [0, 1, 5, 6, 7, 9, 10] ?_; refine vc_region rfl ?_; refine vr 2 ?_; refine vco_add rfl rfl ⟨by omega, by omega⟩ ?_; refine vr 1 ?_; refine vco_end ?_; exact ⟨guess - 1, rest + top, by omega, sub_auto, rfl, kn_down hg2 (by omega), by omega, by omega, by omega⟩
  ·
   skip
   refine vc_sr ?_; refine vr 1 ?_; refine vco_cmp false rfl rfl (clt_f (by omega)) ?_; refine vr 19 ?_; refine vco_k [0, 1, 5, 6, 7, 9, 10, 71] ?_; refine vc_cond_f rfl ?_; refine vc_exit ?_; have hkr := kn_rest hV hW hvl (by omega) hhead hg2 (by omega); exact ⟨guess, sub_auto, rfl, hqg, by have := (Nat.le_div_iff_mul_le hV0).2 hkr.2; rw [← hqd] at this; omega, by omega⟩
 ·
  rintro guess H2 ⟨rfl, hq1, hq2, hgB⟩; refine vc_sr ?_; refine vr 1 ?_; refine vco_k [0, 1, 5, 9, 11] ?_; refine vc_seq ?_; refine vc_sr ?_; refine vr 2 ?_; refine vco_k [0, 1, 5, 9, 11, 77, 78] ?_; refine vc_block ?_; refine vc_loop3 (fun (i : Nat) (w1 : List Nat) (br : Nat) => b.length - i) (fun (i : Nat) (w1 : List Nat) (br : Nat) => put (put (put (put (put (put (put (emp) 0 (.val (.slice (some ⟨g, lo.length, none⟩) (b.length + 1) c))) 1 (.val (.slice A' b.length c'))) 5 (.val (.int .i64 (b.length : Int)))) 9 (.val (.int .u64 (guess : Int)))) 11 (.val (.int .i64 (br : Int)))) 77 (.val (.int .i64 (b.length : Int)))) 78 (.val (.int .i64 (i : Int)))) (fun (i : Nat) (w1 : List Nat) (br : Nat) H' => H' = ins H g (uent (lo ++ w1 ++ hi) N) ∧ i ≤ b.length ∧ w1.length = w.length ∧ Lt w1 ∧ w1.drop i = w.drop i ∧ br ≤ 1000000000 ∧ val (w.take i) + B ^ i * br = val (w1.take i) + guess * val (b.take i)) 0 w 0 (⟨rfl, by omega, rfl, hlw, rfl, by omega, by simp [val]⟩) sub_auto ?_; rintro i w1 br H1 ⟨rfl, hib, hwl1, hlw1, hdr, hbr, hv⟩; refine vc_sr ?_; refine vr 1 ?_; refine vco_k [0, 1, 5, 9, 11, 77, 78, 79] ?_; refine vc_seq ?_; refine vc_cond rfl (fun hb => ?_) (fun hb => ?_)
  ·
   have hb : i < b.length := by simpa using hb
   obtain ⟨d, hd⟩ : ∃ d, w[i]? = some d := ⟨_, List.getElem?_eq_getElem (by omega)⟩; obtain ⟨p, hp⟩ : ∃ p, b[i]? = some p := ⟨_, List.getElem?_eq_getElem (by omega)⟩; have hdB := hlw.get hd; have hpB := hlb.get hp; rw [B_eq] at hdB hpB
   have hd1 : w1[i]? = some d := by rw [drop_at hdr]; exact hd
   have hgp : guess * p ≤ 999999999 * 999999999 := Nat.mul_le_mul (by omega) (by omega)
   have hgp2 : (guess : Int) * (p : Int) = ((guess * p : Nat) : Int) := by simp
   refine vc_skip ?_; refine vc_keep [0, 1, 5, 9, 11, 77, 78] rfl ?_; refine vc_seq ?_; refine vc_block ?_; refine vc_sr ?_; refine vr 2 ?_; refine vco_k [0, 1, 5, 9, 11, 12, 77, 78] ?_; refine vc_sd .drawB [0, 1, 2, 3, 4, 5, 6, 7, 8, 9, 10, 11, 12, 13, 14, 15, 16, 17] follows (by kernel_rfl) ?_; refine vr 2 ?_; refine vco_at tbOk rfl rfl rfl rfl rfl (rd_win _ _ _ _ _ _) (U_get hd1) (by omega) (by omega) fun _ => ?_; refine vco_conv tbOk rfl rfl rfl ⟨by omega, by omega⟩ ?_; refine vr 1 ?_; refine vco_sub rfl rfl ⟨by omega, by omega⟩ ?_; refine vr 3 ?_; refine vco_at tbOk rfl rfl rfl rfl rfl (hrb _) (U_get hp) (by omega) (by omega) fun _ => ?_; refine vco_conv tbOk rfl rfl rfl ⟨by omega, by omega⟩ ?_; refine vco_mul rfl rfl ⟨by omega, by omega⟩ ?_; refine vco_rem rfl rfl (by omega) (by omega) ?_; refine vco_conv tbOk rfl rfl rfl ⟨by omega, by omega⟩ ?_; refine vco_sub rfl rfl ⟨by omega, by omega⟩ ?_; refine vr 1 ?_; refine vco_k [0, 1, 5, 9, 12, 13, 77, 78] ?_; refine vc_sr ?_; refine vr 3 ?_; refine vco_at tbOk rfl rfl rfl rfl rfl (hrb _) (U_get hp) (by omega) (by omega) fun _ => ?_; refine vco_conv tbOk rfl rfl rfl ⟨by omega, by omega⟩ ?_; refine vco_mul rfl rfl ⟨by omega, by omega⟩ ?_; refine vco_quo rfl rfl (by omega) (by omega) ⟨by omega, by omega⟩ ?_; refine vco_conv tbOk rfl rfl rfl ⟨by omega, by omega⟩ ?_; refine vr 1 ?_; refine vco_k [0, 1, 5, 9, 11, 12, 13, 77, 78] ?_; refine vc_seq ?_
   refine vc_block ?_; refine vc_loop1 (fun (t : Nat) => 3 - t) (fun (t : Nat) => put (put (put (put (put (put (put (put (put (emp) 0 (.val (.slice (some ⟨g, lo.length, none⟩) (b.length + 1) c))) 1 (.val (.slice A' b.length c'))) 5 (.val (.int .i64 (b.length : Int)))) 9 (.val (.int .u64 (guess : Int)))) 11 (.val (.int .i64 ((guess * p / 1000000000 + t : Nat) : Int)))) 12 (.val (.int .i64 (i : Int)))) 13 (.val (.int .i64 ((d : Int) - br - ((guess * p % 1000000000 : Nat) : Int) + t * 1000000000)))) 77 (.val (.int .i64 (b.length : Int)))) 78 (.val (.int .i64 (i : Int)))) (fun (t : Nat) H' => H' = ins H g (uent (lo ++ w1 ++ hi) N) ∧ t ≤ 2 ∧ (d : Int) - br - ((guess * p % 1000000000 : Nat) : Int) + t * 1000000000 < 1000000000) 0 (⟨rfl, by omega, by omega⟩) sub_auto ?_; rintro t H1 ⟨rfl, ht, hsB⟩; refine vc_seq ?_; refine vc_sr ?_; refine vr 2 ?_; refine vco_k [0, 1, 5, 9, 11, 12, 13, 77, 78, 108] ?_; refine vc_cond rfl (fun hb => ?_) (fun hb => ?_)
   ·
    simp at hb
    refine vc_skip ?_; refine vc_keep [0, 1, 5, 9, 11, 12, 13, 77, 78] rfl ?_; refine vc_block ?_; refine vc_sr ?_; refine vr 1 ?_; refine vco_add rfl rfl ⟨by omega, by omega⟩ ?_; refine vr 1 ?_; refine vco_k [0, 1, 5, 9, 11, 12, 13, 77, 78] ?_; refine vc_region rfl ?_; refine vr 1 ?_; refine vco_add rfl rfl ⟨by omega, by omega⟩ ?_; refine vr 1 ?_; refine vco_end ?_; exact ⟨t + 1, by omega, sub_auto, rfl, by omega, by omega⟩
   ·
    simp at hb
    refine vc_exit ?_; refine vc_keep [0, 1, 5, 9, 11, 12, 13, 77, 78] rfl ?_; refine vc_region rfl ?_; refine vr 3 ?_; refine vco_conv tbOk rfl rfl rfl ⟨by omega, by omega⟩ ?_; obtain ⟨ti, hti, htz⟩ := sz121; refine vco_set (.inl rfl) tbOk rfl rfl rfl (by omega) (by omega) (ins_same _ _ _) rfl (by rw [uent_len]; simp; omega) hti htz (fun _ => rfl) rfl rfl rfl fun _ => ?_; refine vco_end ?_; refine vc_keep [0, 1, 5, 9, 11, 77, 78] rfl ?_; refine vc_region rfl ?_; refine vco_add rfl rfl ⟨by omega, by omega⟩ ?_; refine vr 1 ?_; refine vco_end ?_; obtain ⟨y, hy⟩ : ∃ y : Nat, (y : Int) = (d : Int) - br - ((guess * p % 1000000000 : Nat) : Int) + t * 1000000000 := ⟨((d : Int) - br - ((guess * p % 1000000000 : Nat) : Int) + t * 1000000000).toNat, by omega⟩; have hst := sub_step (o := w1.take i) (s := y) (br' := guess * p / 1000000000 + t) (d := d) (e := guess * p) (ta' := val (w.take (i + 1))) (tb' := guess * val (b.take (i + 1))) (by simp; omega) hv (by rw [B_eq]; omega) (val_take_succ hd) (by rw [val_take_succ hp, Nat.mul_add, Nat.mul_left_comm]); rw [← take_set_succ (by omega)] at hst; exact ⟨i + 1, w1.set i y, guess * p / 1000000000 + t, by omega, sub_auto, by rw [set_win (y := y) hy.symm (by rw [Int.toNat_natCast]; omega)]; rfl, by omega, by simp [hwl1], hlw1.set (by rw [B_eq]; omega), drop_set hdr, by omega, hst⟩
  ·
   have hb : b.length ≤ i := by simpa using hb
   obtain rfl : i = b.length := by omega
   rw [List.take_length] at hv
   have hun1 : w1[b.length]? = some un := by rw [drop_at hdr]; exact hun
   refine vc_exit ?_; refine vc_keep [0, 1, 5, 9, 11] rfl ?_; refine vc_sr ?_; refine vr 2 ?_; refine vco_at tbOk rfl rfl rfl rfl rfl (rd_win _ _ _ _ _ _) (U_get hun1) (by omega) (by omega) fun _ => ?_; refine vco_conv tbOk rfl rfl rfl ⟨by omega, by omega⟩ ?_; refine vr 1 ?_; refine vco_sub rfl rfl ⟨by omega, by omega⟩ ?_; refine vr 1 ?_; refine vco_k [0, 1, 5, 9, 14] ?_; refine vc_seq ?_; refine vc_sr ?_; refine vr 2 ?_; refine vco_k [0, 1, 5, 9, 14, 127] ?_; refine vc_cond rfl (fun hb => ?_) (fun hb => ?_)
   ·
    have hb : br ≤ un := by simp at hb; omega
    obtain ⟨hf1, hf2⟩ := kn_fin hWn hv hb hqd hq1 hV0; refine vc_sr ?_; refine vr 3 ?_; refine vco_conv tbOk rfl rfl rfl ⟨by omega, by omega⟩ ?_; obtain ⟨ti, hti, htz⟩ := sz121; refine vco_set (.inl rfl) tbOk rfl rfl rfl (by omega) (by omega) (ins_same _ _ _) rfl (by rw [uent_len]; simp; omega) hti htz (fun _ => rfl) rfl rfl rfl fun _ => ?_; refine vco_k [9] ?_; refine vc_sr ?_; refine vr 1 ?_; refine vco_conv tbOk rfl rfl rfl ⟨by omega, by omega⟩ ?_; refine vr 1 ?_; refine vco_k [4] ?_; refine vc_ret ⟨.inr rfl, _, .tmp rfl (.nil), ?_⟩; refine ⟨w1.set b.length (un - br), by rw [set_win (y := un - br) (by omega) (by rw [Int.toNat_natCast]; omega)]; rfl, by simp [hwl1], hlw1.set (by rw [B_eq]; omega), ?_, by rw [← hf1]; rfl⟩; rw [← hf2, ← List.take_length (l := w1.set b.length (un - br)), List.length_set, hwl1, hwl, take_set_succ (by omega), val_snoc, List.length_take, Nat.min_eq_left (by omega)]
   ·
    have hb : un < br := by simp at hb; omega
    refine vc_skip ?_; refine vc_keep [0, 1, 5, 9, 14] rfl ?_; refine vc_sr ?_; refine vr 1 ?_; refine vco_k [0, 1, 5, 9, 14, 15] ?_; refine vc_seq ?_; refine vc_sr ?_; refine vr 2 ?_; refine vco_k [0, 1, 5, 9, 14, 15, 135, 136] ?_; refine vc_block ?_; refine vc_loop3 (fun (i : Nat) (w2 : List Nat) (cr : Nat) => b.length - i) (fun (i : Nat) (w2 : List Nat) (cr : Nat) => put (put (put (put (put (put (put (put (emp) 0 (.val (.slice (some ⟨g, lo.length, none⟩) (b.length + 1) c))) 1 (.val (.slice A' b.length c'))) 5 (.val (.int .i64 (b.length : Int)))) 9 (.val (.int .u64 (guess : Int)))) 14 (.val (.int .i64 ((un : Int) - br)))) 15 (.val (.int .u32 (cr : Int)))) 135 (.val (.int .i64 (b.length : Int)))) 136 (.val (.int .i64 (i : Int)))) (fun (i : Nat) (w2 : List Nat) (cr : Nat) H' => H' = ins H g (uent (lo ++ w2 ++ hi) N) ∧ i ≤ b.length ∧ w2.length = w.length ∧ Lt w2 ∧ w2.drop i = w1.drop i ∧ cr ≤ 1 ∧ val (w2.take i) + B ^ i * cr = val (w1.take i) + val (b.take i)) 0 w1 0 (⟨rfl, by omega, hwl1, hlw1, rfl, by omega, by simp [val]⟩) sub_auto ?_; rintro i w2 cr H1 ⟨rfl, hib2, hwl2, hlw2, hdr2, hcr, hv2⟩; refine vc_sr ?_; refine vr 1 ?_; refine vco_k [0, 1, 5, 9, 14, 15, 135, 136, 137] ?_; refine vc_seq ?_; refine vc_cond rfl (fun hb => ?_) (fun hb => ?_)
    ·
     have hb : i < b.length := by simpa using hb
     obtain ⟨d, hd⟩ : ∃ d, w1[i]? = some d := ⟨_, List.getElem?_eq_getElem (by omega)⟩; obtain ⟨p, hp⟩ : ∃ p, b[i]? = some p := ⟨_, List.getElem?_eq_getElem (by omega)⟩; have hdB := hlw1.get hd; have hpB := hlb.get hp; rw [B_eq] at hdB hpB
     have hd2 : w2[i]? = some d := by rw [drop_at hdr2]; exact hd
     refine vc_skip ?_; refine vc_keep [0, 1, 5, 9, 14, 15, 135, 136] rfl ?_; refine vc_seq ?_; refine vc_block ?_; refine vc_sr ?_; refine vr 2 ?_; refine vco_k [0, 1, 5, 9, 14, 15, 16, 135, 136] ?_; refine vc_sd .drawB [0, 1, 2, 3, 4, 5, 6, 7, 8, 9, 10, 11] follows (by kernel_rfl) ?_; refine vr 2 ?_; refine vco_at tbOk rfl rfl rfl rfl rfl (rd_win _ _ _ _ _ _) (U_get hd2) (by omega) (by omega) fun _ => ?_; refine vr 2 ?_; refine vco_at tbOk rfl rfl rfl rfl rfl (hrb _) (U_get hp) (by omega) (by omega) fun _ => ?_; refine vco_add rfl rfl ⟨by omega, by omega⟩ ?_; refine vr 1 ?_; refine vco_add rfl rfl ⟨by omega, by omega⟩ ?_; refine vr 1 ?_; refine vco_k [0, 1, 5, 9, 14, 16, 17, 135, 136] ?_; refine vc_sr ?_; refine vr 1 ?_; refine vco_quo rfl rfl (by omega) (by omega) ⟨by omega, by omega⟩ ?_; refine vr 1 ?_; refine vco_k [0, 1, 5, 9, 14, 15, 16, 17, 135, 136] ?_; refine vc_region rfl ?_; refine vr 3 ?_; refine vco_rem rfl rfl (by omega) (by omega) ?_; obtain ⟨ti, hti, htz⟩ := sz121; refine vco_set (.inl rfl) tbOk rfl rfl rfl (by omega) (by omega) (ins_same _ _ _) rfl (by rw [uent_len]; simp; omega) hti htz (fun _ => rfl) rfl rfl rfl fun _ => ?_; refine vco_end ?_; refine vc_keep [0, 1, 5, 9, 14, 15, 135, 136] rfl ?_; refine vc_region rfl ?_; refine vco_add rfl rfl ⟨by omega, by omega⟩ ?_; refine vr 1 ?_; refine vco_end ?_; have hst := carry_step (o := w2.take i) (s := d + p + cr) (a := cr) (b := d + p) (u := val (w1.take (i + 1)) + val (b.take (i + 1))) (by simp; omega) hv2 (by omega) (by rw [val_take_succ hd, val_take_succ hp, Nat.mul_add]; omega)
     rw [← take_set_succ (by omega)] at hst; exact ⟨i + 1, w2.set i ((d + p + cr) % B), (d + p + cr) / B, by omega, sub_auto, by rw [set_win (y := (d + p + cr) % B) (by rw [B_eq]; omega) (by rw [Int.toNat_natCast]; omega)]; rfl, by omega, by simp [hwl2], hlw2.set (Nat.mod_lt _ B_pos), drop_set hdr2, by rw [B_eq]; omega, hst⟩
    ·
     have hb : b.length ≤ i := by simpa using hb
     obtain rfl : i = b.length := by omega
     rw [List.take_length] at hv2; obtain ⟨hf1, hf2, hf3⟩ := kn_fix hWn hv (by omega) hqd hq2 hV0 hVlt (take_lt hlw1 (by omega)) (take_lt hlw2 (by omega)) hv2; refine vc_exit ?_; refine vc_keep [0, 5, 9, 14, 15] rfl ?_; refine vc_sr ?_; refine vr 4 ?_; refine vco_conv tbOk rfl rfl rfl ⟨by omega, by omega⟩ ?_; refine vco_add rfl rfl ⟨by omega, by omega⟩ ?_; refine vco_conv tbOk rfl rfl rfl ⟨by omega, by omega⟩ ?_; obtain ⟨ti, hti, htz⟩ := sz121; refine vco_set (.inl rfl) tbOk rfl rfl rfl (by omega) (by omega) (ins_same _ _ _) rfl (by rw [uent_len]; simp; omega) hti htz (fun _ => rfl) rfl rfl rfl fun _ => ?_; refine vco_k [9] ?_; refine vc_sr ?_; refine vr 1 ?_; refine vco_sub rfl rfl ⟨by omega, by omega⟩ ?_; refine vco_conv tbOk rfl rfl rfl ⟨by omega, by omega⟩ ?_; refine vr 1 ?_; refine vco_k [4] ?_; refine vc_ret ⟨.inr rfl, _, .tmp rfl (.nil), ?_⟩; refine ⟨w2.set b.length 0, by rw [set_win (y := 0) (by omega) (by rw [Int.toNat_natCast]; omega)]; rfl, by simp [hwl2], hlw2.set (by rw [B_eq]; omega), ?_, by rw [show (guess : Int) - 1 = (q : Int) by omega]; rfl⟩; rw [← hf3, ← List.take_length (l := w2.set b.length 0), List.length_set, hwl2, hwl, take_set_succ (by omega), val_snoc, Nat.mul_zero, Nat.add_zero]
end Go.Eng
/- Walks over package rational, nat.go, part 10: the quotient. -/
namespace Go.Eng
open Go.Proofs Num
theorem none_ins {H : Heap} {g g' : Nat} {e : Ent} (h : ins H g e g' = none) : g' ≠ g ∧ H g' = none := by
  by_cases e0 : g' = g
  · subst e0; rw [ins_same] at h; cases h
  · rw [ins_other _ _ e0] at h; exact ⟨e0, h⟩
theorem limbs_ne {y : Nat} (h : 0 < y) : limbs y ≠ [] := fun e => by
  have := val_limbs y
  rw [e] at this
  simp [val] at this
  omega
theorem limbs_low {y : Nat} (h : 0 < y) : B ^ ((limbs y).length - 1) ≤ y := by
  have := (nrm_limbs y).pos (limbs_ne h)
  rwa [val_limbs] at this
/-- What the quotient and the remainder look like. -/
def RetQR (H : Heap) (x y : Nat) (v : Value) (H' : Heap) : Prop := Heap.le H H' ∧ ∃ q r, v = .tuple #[q, r] ∧ NatV H' q (x / y) ∧ NatV H' r (x % y)
theorem divide_ok {H : Heap} {u v : Value} {x y : Nat} (hx : NatV H u x) (hy : NatV H v y) (hy0 : 0 < y) (hm : ((limbs x).length : Int) < 8796093022208) :
  Fn Tryz.prog 210 #[u, v] H (RetQR H x y) := by
 obtain ⟨A, c, rfl, hc, hr⟩ := hx
 obtain ⟨A', c', rfl, hc', hr'⟩ := hy
 have hla := (nrm_limbs x).lt
 have hlb := (nrm_limbs y).lt
 have hylow := limbs_low hy0
 have hyne : (limbs y).length ≠ 0 := fun e => limbs_ne hy0 (List.eq_nil_of_length_eq_zero e); refine fn_intro (args := [_, _]) Tryz.func210 rfl rfl Tryz.ntmps210 rfl rfl fun w0 => ?_; refine vc_keep [0, 1] rfl ?_; refine vc_sr ?_; refine vr 2 ?_; refine vco_k [0, 1] ?_; refine vc_seq ?_; refine vc_sr ?_; refine vr 2 ?_; refine vco_call rfl rfl (compare_ok hr hr' (by omega)) ?_; rintro v1 H1 ⟨e1, rfl⟩; rw [e1]; refine vr 1 ?_; refine vco_k [0, 1, 19] ?_; refine vc_cond rfl (fun hb => ?_) (fun hb => ?_)
 ·
  have hxy : x < y := by unfold cmpN at hb; simp at hb; split at hb <;> (try split at hb) <;> simp_all
  refine vc_sr ?_; refine vr 1 ?_; refine vco_append Tryz.underlying177 el121 rfl rfl (ownU_nil _) (hr) (by rw [U_length, Nat.mul_one]) (U_one _) (by simp; omega) (by simp; omega) ?_; intro v1 H2 ha; refine vr 2 ?_; refine vco_k [4, 5] ?_; refine vc_ret ⟨.inr rfl, _, .tmp rfl (.tmp rfl (.nil)), ?_⟩
  have h1 : NatV H2 v1 x := by
   have := (App.ownU (a := []) ha rfl rfl).lim
   simpa [NatV] using this
  exact ⟨ha.le, _, _, rfl, by rw [Nat.div_eq_of_lt hxy]; exact natV_zero H2, by rw [Nat.mod_eq_of_lt hxy]; exact h1⟩
 ·
  have hxy : y ≤ x := by unfold cmpN at hb; simp at hb; split at hb <;> (try split at hb) <;> simp_all <;> omega
  have hlen := limbs_len_mono hxy; refine vc_skip ?_; refine vc_keep [0, 1] rfl ?_; refine vc_seq ?_; refine vc_sr ?_; refine vr 3 ?_; refine vco_k [0, 1, 24] ?_; refine vc_cond rfl (fun hb => ?_) (fun hb => ?_)
  ·
   have hb : (limbs y).length = 1 := by simp at hb; omega
   have hy1 : (limbs y)[0]? = some y := by
    obtain ⟨z, hz⟩ := List.length_eq_one_iff.1 hb; have := val_limbs y; rw [hz] at this ⊢
    simp [val] at this
    simp [this]
   have hyB := hlb.get hy1; rw [B_eq] at hyB; refine vc_sr ?_; refine vr 2 ?_; refine vco_at tbOk rfl rfl rfl rfl rfl (hr') (U_get hy1) (by omega) (by omega) fun _ => ?_; refine vco_conv tbOk rfl rfl rfl ⟨by omega, by omega⟩ ?_; refine vco_call rfl rfl (divideSmall_ok (l := limbs x) ⟨A, c, rfl, hc, hr⟩ hla hyB hy0 (by omega)) ?_; rintro v1 H2 ⟨hle, q, rfl, hq⟩; refine vr 1 ?_; rw [val_limbs] at hq ⊢; refine vr 4 ?_; refine vco_k [6, 7] ?_; refine vc_sr ?_; refine vr 2 ?_; refine vco_call rfl rfl (fromWord_ok (x := x % y) (by have := Nat.mod_lt x hy0; omega)) ?_; intro v1 H3 hp; refine vr 2 ?_; refine vco_k [4, 5] ?_; refine vc_ret ⟨.inr rfl, _, .tmp rfl (.tmp rfl (.nil)), ?_⟩; exact ⟨hle.trans hp.le, _, _, rfl, hq.le hp.le, hp.nat⟩
  ·
   have hb : (limbs y).length ≠ 1 := by simp at hb; omega
   have hn2 : 2 ≤ (limbs y).length := by omega
   obtain ⟨t, ht⟩ : ∃ t, (limbs y)[(limbs y).length - 1]? = some t := ⟨_, List.getElem?_eq_getElem (by omega)⟩; have htB := hlb.get ht; rw [B_eq] at htB
   have hj1 : (((limbs y).length : Int) - 1).toNat = (limbs y).length - 1 := by omega
   have hs0 : 0 ≤ (1000000000 : Int) / ((t : Int) + 1) := Int.ediv_nonneg (by omega) (by omega); have hs1 : (1000000000 : Int) / ((t : Int) + 1) ≤ 1000000000 := Int.ediv_le_self _ (by omega); obtain ⟨sc, hsc⟩ : ∃ sc, sc = 1000000000 / (t + 1) := ⟨_, rfl⟩
   have hsci : (1000000000 : Int) / ((t : Int) + 1) = (sc : Int) := by rw [hsc]; simp
   have hsc0 : 0 < sc := by rw [hsc]; exact Nat.div_pos (by omega) (by omega)
   have hsct : sc * (t + 1) ≤ 1000000000 := by rw [hsc]; exact Nat.div_mul_le_self _ _
   refine vc_skip ?_; refine vc_keep [0, 1] rfl ?_; refine vc_sr ?_; refine vr 3 ?_; refine vco_k [0, 1, 8] ?_; refine vc_sr ?_; refine vr 2 ?_; refine vco_sub rfl rfl ⟨by omega, by omega⟩ ?_; refine vco_at tbOk rfl rfl rfl rfl rfl (hr') (by rw [hj1]; exact U_get ht) (by omega) (by omega) fun _ => ?_; refine vco_conv tbOk rfl rfl rfl ⟨by omega, by omega⟩ ?_; refine vco_add rfl rfl ⟨by omega, by omega⟩ ?_; refine vco_quo rfl rfl (by omega) (by omega) ⟨by omega, by omega⟩ ?_; rw [hsci]; refine vr 1 ?_; refine vco_k [0, 1, 8, 9] ?_
   have ht0 : 0 < t := by
    rcases Nat.eq_zero_or_pos t with e|e
    ·
     exfalso
     have := (nrm_limbs y).last t (by rw [List.getLast?_eq_getElem?]; exact ht); exact this e
    · exact e
   have hscB : sc < 1000000000 := by
    have : sc * 2 ≤ sc * (t + 1) := Nat.mul_le_mul_left _ (by omega)
    omega
   have hyV : y * sc < B ^ (limbs y).length := by
    have h1 : y < B ^ ((limbs y).length - 1) * (t + 1) := by
     have h2 := val_take_succ ht; rw [show (limbs y).length - 1 + 1 = (limbs y).length by omega, List.take_length, val_limbs] at h2; have h3 := take_lt hlb (k := (limbs y).length - 1) (by omega); rw [Nat.mul_add, Nat.mul_one]; omega
    have h2 : y * sc < B ^ ((limbs y).length - 1) * (t + 1) * sc := Nat.mul_lt_mul_of_pos_right h1 hsc0
    have h3 : B ^ ((limbs y).length - 1) * (t + 1) * sc ≤ B ^ ((limbs y).length - 1) * B := by
     rw [Nat.mul_assoc]; exact Nat.mul_le_mul_left _ (by rw [Nat.mul_comm, B_eq]; exact hsct)
    rw [← Nat.pow_succ, Nat.succ_eq_add_one, show (limbs y).length - 1 + 1 = (limbs y).length by omega] at h3
    omega
   refine vc_sr ?_; refine vr 2 ?_; refine vco_call rfl rfl (multiplySmall_ok (l := limbs x) ⟨A, c, rfl, hc, hr⟩ hla hscB (by omega)) ?_; rintro v1 H1 ⟨g1, l1, hg1, rfl, rfl, hll1, hlt1, hv1⟩; rw [val_limbs] at hv1; refine vr 1 ?_; refine vco_k [0, 1, 8, 9, 10] ?_; refine vc_sr ?_; refine vr 2 ?_; refine vco_call rfl rfl (multiplySmall_ok (l := limbs y) ⟨A', c', rfl, hc', hr'.le (Heap.le_ins _ hg1)⟩ hlb hscB (by omega)) ?_; rintro v1 H1 ⟨g2, l2, hg2, rfl, rfl, hll2, hlt2, hv2⟩; rw [val_limbs] at hv2; refine vr 1 ?_; refine vco_slice tbOk rfl rfl (.inl ⟨rfl, rfl⟩) (.inr ⟨_, _, rfl, rfl⟩) (by omega) (by omega) ?_; rw [slice_same]; refine vr 1 ?_; refine vco_k [0, 8, 9, 10, 11] ?_; refine vc_sr ?_; refine vr 3 ?_; refine vco_sub rfl rfl ⟨by omega, by omega⟩ ?_; refine vco_add rfl rfl ⟨by omega, by omega⟩ ?_; refine vco_make Tryz.underlying177 el121 rfl rfl rfl (by omega) (by omega) (by omega) (by omega) ?_; intro g3 hg3; obtain ⟨m, hmd⟩ : ∃ m, m = (limbs x).length - (limbs y).length + 1 := ⟨_, rfl⟩; rw [show (((limbs x).length : Int) - ((limbs y).length : Int) + 1).toNat = m from by omega, made_uent']; obtain ⟨h21, hg2'⟩ := none_ins hg2; obtain ⟨h32, hg3'⟩ := none_ins hg3; obtain ⟨h31, hg3''⟩ := none_ins hg3'
   have hb1 : ∀ e e', ins (ins H g2 e) g3 e' g1 = none := fun e e' => by rw [ins_other _ _ (Ne.symm h31), ins_other _ _ (Ne.symm h21)]; exact hg1
   have hb3 : ∀ e, ins H g2 e g3 = none := fun e => by rw [ins_other _ _ h32]; exact hg3''
   rw [ins_comm H _ _ (Ne.symm h21), ins_comm (ins H g2 _) _ _ (Ne.symm h31)]; obtain ⟨V, hVd⟩ : ∃ V, V = y * sc := ⟨_, rfl⟩; obtain ⟨b, hbd⟩ : ∃ b, b = l2.take (limbs y).length := ⟨_, rfl⟩
   have hbl : b.length = (limbs y).length := by rw [hbd]; simp; omega
   have hbV : val b = V := by
    have h1 := val_split l2 (k := (limbs y).length) (by omega); rw [hv2, ← hbd] at h1
    rcases Nat.eq_zero_or_pos (val (l2.drop (limbs y).length)) with e|e
    · rw [e, Nat.mul_zero] at h1; omega
    ·
     have : B ^ (limbs y).length * 1 ≤ B ^ (limbs y).length * val (l2.drop (limbs y).length) := Nat.mul_le_mul_left _ e
     omega
   have hblt : Lt b := by rw [hbd]; exact hlt2.take _
   have hV0 : 0 < V := by rw [hVd]; exact Nat.mul_pos hy0 hsc0
   obtain ⟨tp, htp⟩ : ∃ tp, b[b.length - 1]? = some tp := ⟨_, List.getElem?_eq_getElem (by omega)⟩
   have htp0 : 0 < tp := by
    rcases Nat.eq_zero_or_pos tp with e|e
    ·
     exfalso
     have h2 := val_take_succ htp; rw [show b.length - 1 + 1 = b.length by omega, List.take_length, e, Nat.mul_zero, hbV] at h2; have h3 := take_lt hblt (k := b.length - 1) (by omega); have h4 : y * 1 ≤ y * sc := Nat.mul_le_mul_left _ hsc0; rw [hbl] at h2 h3
     omega
    · exact e
   refine vco_slot (x' := .val (.slice (some ⟨g2, 0, none⟩) b.length ((limbs y).length + 1 - 0))) 11 rfl (by rw [hbl]; rfl) ?_; refine vr 1 ?_; refine vco_k [0, 8, 9, 10, 11, 12] ?_; refine vc_seq ?_; refine vc_sr ?_; refine vr 3 ?_; refine vco_sub rfl rfl ⟨by omega, by omega⟩ ?_; refine vr 1 ?_; refine vco_k [8, 9, 10, 11, 12, 13] ?_; refine vc_block ?_; refine vc_loop3 (fun (k : Nat) (l : List Nat) (o : List Nat) => k) (fun (k : Nat) (l : List Nat) (o : List Nat) => put (put (put (put (put (put (emp) 8 (.val (.int .i64 ((limbs y).length : Int)))) 9 (.val (.int .u64 (sc : Int)))) 10 (.val (.slice (some ⟨g1, 0, none⟩) ((limbs x).length + 1) ((limbs x).length + 1)))) 11 (.val (.slice (some ⟨g2, 0, none⟩) b.length ((limbs y).length + 1 - 0)))) 12 (.val (.slice (some ⟨g3, 0, none⟩) m m))) 13 (.val (.int .i64 ((k : Int) - 1)))) (fun (k : Nat) (l : List Nat) (o : List Nat) H' => H' = ins (ins (ins H g2 (uent l2 ((limbs y).length + 1))) g3 (uent o m)) g1 (uent l ((limbs x).length + 1)) ∧ k ≤ m ∧ l.length = (limbs x).length + 1 ∧ Lt l ∧ o.length = m ∧ Lt o ∧ val (o.drop k) * V * B ^ k + val l = x * sc ∧ val (l.drop k) < V) m _ _ (⟨rfl, by omega, hll1, hlt1, by simp, Lt.replicate _, by simp [val, hv1], by rw [hVd]; exact dv_init (by omega) hv1 (by rw [show m + ((limbs y).length - 1) = (limbs x).length by omega]; exact limbs_lt x) hylow hsc0⟩) sub_auto ?_; rintro k l o H1 ⟨rfl, hk, hll, hlt, hol, hlo, hinv, hlow⟩; refine vc_seq ?_; refine vc_sr ?_
   refine vr 2 ?_; refine vco_k [8, 9, 10, 11, 12, 13, 66] ?_; refine vc_cond rfl (fun hb => ?_) (fun hb => ?_)
   ·
    have hb : 1 ≤ k := by simp at hb; omega
    obtain ⟨k, rfl⟩ : ∃ j, k = j + 1 := ⟨k - 1, by omega⟩
    have hk1 : (((k + 1 : Nat) : Int) - 1).toNat = k := by omega
    obtain ⟨w, hwd⟩ : ∃ w, w = (l.drop k).take ((limbs y).length + 1) := ⟨_, rfl⟩
    have hwl : w.length = (limbs y).length + 1 := by rw [hwd]; simp; omega
    obtain ⟨hwz, hwe, hwV⟩ := dv_win hlt (n := (limbs y).length) (by omega) hlow (by omega); rw [← hwd, ← hbV] at hwV
    have hwlt : Lt w := by rw [hwd]; exact (hlt.drop k).take _
    have hlw : l = l.take k ++ w ++ l.drop (k + (limbs y).length + 1) := by
     rw [hwd, List.append_assoc]
     conv => lhs; rw [← List.take_append_drop k l, ← List.take_append_drop ((limbs y).length + 1) (l.drop k)]
     rw [List.drop_drop]
     rfl
    have hlk : (l.take k).length = k := by simp; omega
    have hrb : Rd (ins (ins H g2 (uent l2 ((limbs y).length + 1))) g3 (uent o m)) (some ⟨g2, 0, none⟩) (U b) := by
     rw [hbd, U_take]; exact ((rd_uent H g2 l2 _).le (Heap.le_ins _ (hb3 _))).take _
    refine vc_skip ?_; refine vc_keep [8, 9, 10, 11, 12, 13] rfl ?_; refine vc_seq ?_; refine vc_block ?_; refine vc_region rfl ?_; refine vr 6 ?_; refine vco_add rfl rfl ⟨by omega, by omega⟩ ?_; refine vco_add rfl rfl ⟨by omega, by omega⟩ ?_; refine vco_slice tbOk rfl rfl (.inr ⟨_, _, rfl, congrArg (fun z => some (Value.int .i64 z)) (show ((k + 1 : Nat) : Int) - 1 = ((k : Nat) : Int) by omega)⟩) (.inr ⟨_, _, rfl, congrArg (fun z => some (Value.int .i64 z)) (show ((k + 1 : Nat) : Int) - 1 + ((limbs y).length : Int) + 1 = ((k + (limbs y).length + 1 : Nat) : Int) by omega)⟩) (by omega) (by omega) ?_; refine vco_slot (x' := .val (.slice (some ⟨g1, (l.take k).length, none⟩) (b.length + 1) ((limbs x).length + 1 - k))) 77 rfl (by rw [if_neg (by omega), Option.map_some, addr0, Nat.mul_one, hlk, show k + (limbs y).length + 1 - k = b.length + 1 by omega]) ?_; refine vr 1 ?_; refine vco_call rfl rfl (by have hF := quotientLimb_ok (lo := l.take k) (w := w) (hi := l.drop (k + (limbs y).length + 1)) (N := (limbs x).length + 1) (c := (limbs x).length + 1 - k) (c' := (limbs y).length + 1 - 0) (hb1 _ _) hrb (by omega) (by omega) (by omega) hwlt hblt htp htp0 hwV; rw [← hlw] at hF; exact hF) ?_; rintro v1 H1 ⟨w', rfl, hw1, hw2, hw3, rfl⟩; obtain ⟨ti, hti, htz⟩ := sz121; refine vco_set (.inl rfl) tbOk rfl rfl rfl (by omega) (by omega) ((ins_other _ _ h31).trans (ins_same _ _ _)) rfl (by rw [uent_len]; omega) hti htz (fun _ => rfl) rfl rfl rfl fun _ => ?_; refine vco_end ?_
    refine vc_keep [8, 9, 10, 11, 12, 13] rfl ?_; refine vc_region rfl ?_; refine vr 1 ?_; refine vco_sub rfl rfl ⟨by omega, by omega⟩ ?_; refine vr 1 ?_; refine vco_end ?_; have hst := dv_step (q := val w / V) hlt (n := (limbs y).length) (by omega) hlow (by omega) (by omega) hinv (by rw [← hwd]) (by rw [← hwd, hw3, hbV]) (by rw [hw1, hwl]); refine ⟨k, l.take k ++ w' ++ l.drop (k + (limbs y).length + 1), o.set k (val w / V), by omega, sub_auto, ?_, by omega, ?_, ?_, by simp [hol], hlo.set ?_, hst.1, hst.2⟩
    · rw [ins_comm _ _ _ (Ne.symm h31), set_uent (y := val w / V) (by rw [hbV]), hk1]
    · simp [hw1, hwl, hll]; omega
    · exact ((hlt.take k).append hw2).append (hlt.drop _)
    · rw [← hbV]; exact Nat.div_lt_of_lt_mul (by rw [Nat.mul_comm]; exact hwV)
   ·
    have hb : k = 0 := by simp at hb; omega
    subst hb
    simp only [List.drop_zero, Nat.pow_zero, Nat.mul_one] at hinv hlow
    obtain ⟨hQ, hR⟩ := dv_end (Q := val o) (R := val l) (x := x) (y := y) (sc := sc) (by rw [← hVd]; exact hinv) (by rw [← hVd]; exact hlow) hsc0; refine vc_exit ?_; refine vc_keep [9, 10, 12] rfl ?_; refine vc_sr ?_; refine vr 1 ?_; refine vco_call rfl rfl (trim_v (lim_uent _ _ l _ _ hll.symm (Nat.le_refl _)) hlt (by omega)) ?_; intro v1 H4 hp; refine vr 1 ?_; refine vco_call rfl rfl (divideSmall_ok hp.nat (nrm_limbs _).lt hscB hsc0 (by have := limbs_len_le.2 (val_lt hlt); omega)) ?_; rintro v2 H5 ⟨hle5, r, rfl, hr5⟩; rw [val_limbs, hR] at hr5; refine vr 5 ?_; refine vco_k [12, 14] ?_; refine vc_sr ?_; refine vr 1 ?_; refine vco_call rfl rfl (trim_v (((lim_uent _ _ o m m hol.symm (Nat.le_refl _)).le (Heap.le_ins _ (hb1 _ _))).le (hp.le.trans hle5)) hlo (by omega)) ?_; intro v1 H6 hp6; refine vr 3 ?_; refine vco_k [4, 5] ?_; refine vc_ret ⟨.inr rfl, _, .tmp rfl (.tmp rfl (.nil)), ?_⟩; exact ⟨((((Heap.le_ins _ hg2').trans (Heap.le_ins _ (hb3 _))).trans (Heap.le_ins _ (hb1 _ _))).trans (hp.le.trans hle5)).trans hp6.le, _, _, rfl, by rw [← hQ]; exact hp6.nat, hr5.le hp6.le⟩
end Go.Eng
/- Walks over package rational, nat.go, part 11: the greatest common divisor. -/
namespace Go.Eng
open Go.Proofs Num
theorem gcd_ok {H : Heap} {u v : Value} {x y : Nat} (hx : NatV H u x) (hy : NatV H v y) (hm : ((limbs x).length : Int) < 8796093022208) (hm' : ((limbs y).length : Int) < 8796093022208) :
    Fn Tryz.prog 209 #[u, v] H (RetN H (Nat.gcd x y)) := by
  obtain ⟨M, hM⟩ : ∃ M, M = max x y := ⟨_, rfl⟩
  have hMl : ((limbs M).length : Int) < 8796093022208 := by
    rcases Nat.le_total x y with h | h
    · rw [hM, Nat.max_eq_right h]; exact hm'
    · rw [hM, Nat.max_eq_left h]; exact hm
  refine fn_intro (args := [_, _]) Tryz.func209 rfl rfl Tryz.ntmps209 rfl rfl fun w0 => ?_; refine vc_keep [0, 1] rfl ?_; refine vc_sr ?_; refine vr 1 ?_; refine vco_k [0, 1] ?_; refine vc_seq ?_; refine vc_block ?_; refine vc_loop4 (fun (x1 : Nat) (y1 : Nat) (u : Value) (v : Value) => y1) (fun (x1 : Nat) (y1 : Nat) (u : Value) (v : Value) => put (put (emp) 0 (.val (u))) 1 (.val (v))) (fun (x1 : Nat) (y1 : Nat) (u : Value) (v : Value) H' => Heap.le H H' ∧ NatV H' u x1 ∧ NatV H' v y1 ∧ Nat.gcd x1 y1 = Nat.gcd x y ∧ x1 ≤ M ∧ y1 ≤ M) x y u v (⟨.refl _, hx, hy, rfl, by omega, by omega⟩) sub_auto ?_; rintro x1 y1 u v H1 ⟨hle, hx1, hy1, hg, hxM, hyM⟩; obtain ⟨A, c, rfl, hc, hr⟩ := hx1; obtain ⟨A', c', rfl, hc', hr'⟩ := hy1; have hl1 := limbs_len_mono hxM; have hl2 := limbs_len_mono hyM; refine vc_seq ?_; refine vc_sr ?_; refine vr 3 ?_; refine vco_k [0, 1, 13] ?_; refine vc_cond rfl (fun hb => ?_) (fun hb => ?_)
  ·
    have hb : (limbs y1).length ≠ 0 := by simp at hb; intro e; simp [List.eq_nil_of_length_eq_zero e] at hb
    have hy0 : 0 < y1 := by rcases Nat.eq_zero_or_pos y1 with e | e; · exact absurd (limbs_len_zero.2 e) hb
                            · exact e
    refine vc_skip ?_; refine vc_keep [0, 1] rfl ?_; refine vc_block ?_; refine vc_seq ?_
    by_cases h2 : (limbs x1).length ≤ 2
    ·
      skip
      refine vc_sr ?_; refine vr 2 ?_; refine vco_cmp true rfl rfl (cle_t (by omega)) ?_; refine vr 5 ?_; refine vco_k [0, 1, 21] ?_; refine vc_cond rfl (fun hb => ?_) (fun hb => ?_)
      ·
        have hb : (limbs y1).length ≤ 2 := by simp at hb; omega
        have hx18 := limbs_len_le.1 h2; have hy18 := limbs_len_le.1 hb; rw [B_eq] at hx18 hy18
        simp only [Nat.reducePow] at hx18 hy18
        refine vc_sr ?_; refine vr 1 ?_; refine vco_call rfl rfl (word_ok hr h2) ?_; rintro v1 H2 ⟨rfl, rfl⟩; refine vr 5 ?_; refine vco_k [1, 5] ?_; refine vc_sr ?_; refine vr 1 ?_; refine vco_call rfl rfl (word_ok hr' hb) ?_; rintro v1 H3 ⟨rfl, rfl⟩; refine vr 5 ?_; refine vco_k [5, 7] ?_; refine vc_seq ?_; refine vc_block ?_; refine vc_loop2 (fun (p : Nat) (q : Nat) => q) (fun (p : Nat) (q : Nat) => put (put (emp) 5 (.val (.int .u64 (p : Int)))) 7 (.val (.int .u64 (q : Int)))) (fun (p : Nat) (q : Nat) H' => Heap.le H H' ∧ Nat.gcd p q = Nat.gcd x y ∧ p < 1000000000000000000 ∧ q < 1000000000000000000) x1 y1 (⟨hle, hg, hx18, hy18⟩) sub_auto ?_; rintro p q H1 ⟨hle2, hg2, hp18, hq18⟩; refine vc_seq ?_; refine vc_sr ?_; refine vr 2 ?_; refine vco_k [5, 7, 33] ?_; refine vc_cond rfl (fun hb => ?_) (fun hb => ?_)
        ·
          have hb : 0 < q := by simp at hb; omega
          refine vc_skip ?_; refine vc_keep [5, 7] rfl ?_; refine vc_block ?_; refine vc_draw .drawB [0, 1, 2, 3, 4, 5] follows (by kernel_rfl) ?_; refine vr 3 ?_; refine vco_rem rfl rfl (by omega) (by omega) ?_; refine vr 2 ?_; refine vco_end ?_; have hlt := Nat.mod_lt p hb; exact ⟨q, p % q, hlt, sub_auto, hle2, by rw [Nat.gcd_comm q, ← Nat.gcd_rec, Nat.gcd_comm q]; exact hg2, hq18, by omega⟩
        ·
          have hb : q = 0 := by simp at hb; omega
          subst hb; rw [Nat.gcd_zero_right] at hg2; refine vc_exit ?_; refine vc_keep [5] rfl ?_; refine vc_sr ?_; refine vr 1 ?_; refine vco_call rfl rfl (fromWord_ok (by omega)) ?_; intro v1 H4 hp; refine vr 1 ?_; refine vco_k [4] ?_; refine vc_ret ⟨.inr rfl, _, .tmp rfl (.nil), ?_⟩; exact ⟨hle2.trans hp.le, by rw [← hg2]; exact hp.nat⟩
      ·
        skip
        refine vc_skip ?_; refine vc_keep [0, 1] rfl ?_; refine vc_sr ?_; refine vr 2 ?_; refine vco_call rfl rfl (divide_ok (x := x1) (y := y1) ⟨A, c, rfl, hc, hr⟩ ⟨A', c', rfl, hc', hr'⟩ hy0 (by omega)) ?_; rintro v1 H4 ⟨hle2, q, r, rfl, hq2, hr2⟩; refine vr 5 ?_; refine vco_k [1, 10] ?_; refine vc_region rfl ?_; refine vr 4 ?_; refine vco_end ?_; have hlt := Nat.mod_lt x1 hy0; exact ⟨y1, x1 % y1, _, _, hlt, sub_auto, hle.trans hle2, LimV.le (l := limbs y1) ⟨A', c', rfl, hc', hr'⟩ hle2, hr2, by rw [Nat.gcd_comm y1, ← Nat.gcd_rec, Nat.gcd_comm y1]; exact hg, hyM, by omega⟩
    ·
      skip
      refine vc_sr ?_; refine vr 2 ?_; refine vco_cmp false rfl rfl (cle_f (by omega)) ?_; refine vr 5 ?_; refine vco_k [0, 1, 21] ?_; refine vc_cond_f rfl ?_; refine vc_skip ?_; refine vc_keep [0, 1] rfl ?_; refine vc_sr ?_; refine vr 2 ?_; refine vco_call rfl rfl (divide_ok (x := x1) (y := y1) ⟨A, c, rfl, hc, hr⟩ ⟨A', c', rfl, hc', hr'⟩ hy0 (by omega)) ?_; rintro v1 H4 ⟨hle2, q, r, rfl, hq2, hr2⟩; refine vr 5 ?_; refine vco_k [1, 10] ?_; refine vc_region rfl ?_; refine vr 4 ?_; refine vco_end ?_; have hlt := Nat.mod_lt x1 hy0; exact ⟨y1, x1 % y1, _, _, hlt, sub_auto, hle.trans hle2, LimV.le (l := limbs y1) ⟨A', c', rfl, hc', hr'⟩ hle2, hr2, by rw [Nat.gcd_comm y1, ← Nat.gcd_rec, Nat.gcd_comm y1]; exact hg, hyM, by omega⟩
  ·
    have hb : (limbs y1).length = 0 := by simp at hb; simp [hb]
    have hy0 : y1 = 0 := limbs_len_zero.1 hb; subst hy0; rw [Nat.gcd_zero_right] at hg; refine vc_exit ?_; refine vc_keep [0] rfl ?_; refine vc_sr ?_; refine vr 2 ?_; refine vco_k [4] ?_; refine vc_ret ⟨.inr rfl, _, .tmp rfl (.nil), ?_⟩; exact ⟨hle, by rw [← hg]; exact ⟨A, c, rfl, hc, hr⟩⟩
end Go.Eng
/- Fractions as rational numbers (plain). -/
namespace Num
def sg (neg : Bool) (n : Nat) : Int := if neg then -(n : Int) else n
def frac (neg : Bool) (n d : Nat) : Rat := mkRat (sg neg n) d
theorem sg_abs (f : Bool) (n : Nat) : (sg f n).natAbs = n := by cases f <;> simp [sg]
theorem sg_zero (f : Bool) : sg f 0 = 0 := by cases f <;> rfl
theorem frac_num0 (f : Bool) (d : Nat) : frac f 0 d = 0 := by simp [frac, sg_zero]
theorem frac_den0 (f : Bool) (n : Nat) : frac f n 0 = 0 := by simp [frac]
theorem frac_den {f : Bool} {n d : Nat} (hd : 0 < d) : (frac f n d).den = d / Nat.gcd n d := by
  rw [frac, Rat.den_mkRat, if_neg (by omega), sg_abs, Nat.gcd_comm]
theorem frac_num {f : Bool} {n d : Nat} (hd : 0 < d) : (frac f n d).num = sg f (n / Nat.gcd n d) := by
  rw [frac, Rat.num_mkRat, if_neg (by omega), sg_abs, Nat.gcd_comm]
  have hdv : Nat.gcd n d ∣ n := Nat.gcd_dvd_left n d
  cases f
  · simp [sg]
  · simp only [sg, if_true]
    rw [Int.neg_ediv_of_dvd (by exact_mod_cast hdv)]
    simp
theorem frac_abs {f : Bool} {n d : Nat} (hd : 0 < d) : (frac f n d).num.natAbs = n / Nat.gcd n d := by rw [frac_num hd, sg_abs]
theorem frac_sign {f : Bool} {n d : Nat} (hd : 0 < d) (hn : 0 < n) : decide ((frac f n d).num < 0) = f := by
  rw [frac_num hd]
  have h1 : 0 < n / Nat.gcd n d := Nat.div_pos (Nat.le_of_dvd hn (Nat.gcd_dvd_left n d)) (Nat.gcd_pos_of_pos_left _ hn)
  cases f <;> simp [sg] <;> omega
theorem frac_eq_zero {f : Bool} {n d : Nat} (hd : 0 < d) : frac f n d = 0 ↔ n = 0 := by
  rw [frac, Rat.mkRat_eq_zero (by omega)]
  cases f <;> simp [sg]
theorem frac_lt0 {f : Bool} {n d : Nat} (hd : 0 < d) (hn : 0 < n) : frac f n d < 0 ↔ f = true := by
  have h := frac_sign (f := f) hd hn
  rw [← Rat.not_le, ← Rat.num_nonneg]
  constructor
  · intro h1; rw [← h, decide_eq_true_iff]; omega
  · intro h1; rw [h1] at h ⊢; have := of_decide_eq_true h; omega
theorem frac_add_same (f : Bool) {n m d e : Nat} (hd : 0 < d) (he : 0 < e) : frac f n d + frac f m e = frac f (n * e + m * d) (d * e) := by
  rw [frac, frac, Rat.mkRat_add_mkRat _ _ (by omega) (by omega), frac]
  congr 1
  cases f
  · simp [sg]
  · simp [sg, Int.neg_add, Int.neg_mul]
theorem frac_add_ge {f g : Bool} (hfg : f ≠ g) {n m d e : Nat} (hd : 0 < d) (he : 0 < e) (h : m * d ≤ n * e) : frac f n d + frac g m e = frac f (n * e - m * d) (d * e) := by
  rw [frac, frac, Rat.mkRat_add_mkRat _ _ (by omega) (by omega), frac]
  congr 1
  obtain rfl : g = !f := by cases f <;> cases g <;> simp at hfg ⊢
  cases f
  · simp [sg]
    rw [Int.ofNat_sub h]; simp [Int.neg_mul]; omega
  · simp [sg]
    rw [Int.ofNat_sub h]; simp [Int.neg_mul]; omega
theorem frac_add_lt {f g : Bool} (hfg : f ≠ g) {n m d e : Nat} (hd : 0 < d) (he : 0 < e) (h : n * e ≤ m * d) : frac f n d + frac g m e = frac g (m * d - n * e) (d * e) := by
  rw [Rat.add_comm, frac_add_ge (Ne.symm hfg) he hd h, Nat.mul_comm e d]
theorem frac_neg (f : Bool) (n d : Nat) : -frac f n d = frac (!f) n d := by
  rw [frac, frac, Rat.neg_mkRat]
  cases f <;> simp [sg]
theorem frac_mul (f g : Bool) (n m d e : Nat) : frac f n d * frac g m e = frac (f != g) (n * m) (d * e) := by
  rw [frac, frac, Rat.mkRat_mul_mkRat, frac]
  congr 1
  cases f <;> cases g <;> simp [sg, Int.neg_mul, Int.mul_neg]
theorem frac_inv {g : Bool} {m e : Nat} (_hm : 0 < m) : (frac g m e)⁻¹ = frac g e m := by
  rw [frac, frac, ← Rat.divInt_ofNat, Rat.inv_divInt, ← Rat.divInt_ofNat]
  cases g
  · rfl
  · simp only [sg, if_true]
    rw [Rat.divInt_neg']
theorem frac_div {f g : Bool} {n m d e : Nat} (hm : 0 < m) : frac f n d / frac g m e = frac (f != g) (n * e) (d * m) := by
  rw [Rat.div_def, frac_inv hm, frac_mul]
theorem sg_int (n : Int) : sg (decide (n < 0)) n.natAbs = n := by
  unfold sg; split
  · rename_i h; simp at h; omega
  · rename_i h; simp at h; omega
theorem frac_int (n : Int) : frac (decide (n < 0)) n.natAbs 1 = (n : Rat) := by
  have : sg (decide (n < 0)) n.natAbs = n := by
    unfold sg; split
    · rename_i h; simp at h; omega
    · rename_i h; simp at h; omega
  rw [frac, this]
  exact Rat.mkRat_self (n : Rat)
theorem frac_small (a b : Int) : frac (decide (a < 0) != decide (b < 0)) a.natAbs b.natAbs = (a : Rat) / (b : Rat) := by
  rcases Nat.eq_zero_or_pos b.natAbs with h | h
  · rw [h, frac_den0]
    have : b = 0 := by omega
    subst this
    simp [Rat.div_def]
  · rw [← frac_int a, ← frac_int b, frac_div h]
    simp
/-- The sign of a number. -/
def sgnQ (q : Rat) : Int := if q < 0 then -1 else if q = 0 then 0 else 1
/-- The order of two numbers. -/
def cmpQ (p q : Rat) : Int := if p < q then -1 else if p = q then 0 else 1
theorem sgn_frac {f : Bool} {n d : Nat} (hd : 0 < d) : sgnQ (frac f n d) = if n = 0 then 0 else if f then -1 else 1 := by
  unfold sgnQ
  by_cases hn : n = 0
  · subst hn; rw [frac_num0]; rfl
  · have h1 := frac_lt0 (f := f) hd (by omega : 0 < n)
    have h2 := frac_eq_zero (f := f) (n := n) hd
    cases f
    · rw [if_neg (by rw [h1]; simp), if_neg (by rw [h2]; exact hn), if_neg hn]; rfl
    · rw [if_pos (by rw [h1]), if_neg hn]; rfl
end Num
/- How fractions and rational numbers lie in memory. -/
namespace Go.Eng
open Go.Proofs Num
/-- The struct of a sign and two natural numbers. -/
def FracV (H : Heap) (v : Value) (f : Bool) (n d : Nat) : Prop := ∃ u w, v = .agg #[.bool f, u, w] ∧ NatV H u n ∧ NatV H w d
theorem FracV.le {H H' : Heap} {v : Value} {f : Bool} {n d : Nat} (h : FracV H v f n d) (hl : Heap.le H H') : FracV H' v f n d := by
  obtain ⟨u, w, h1, h2, h3⟩ := h
  exact ⟨u, w, h1, h2.le hl, h3.le hl⟩
/-- A rational number in its canonical form. -/
def CanV (H : Heap) (v : Value) (q : Rat) : Prop := FracV H v (decide (q.num < 0)) q.num.natAbs q.den
theorem CanV.le {H H' : Heap} {v : Value} {q : Rat} (h : CanV H v q) (hl : Heap.le H H') : CanV H' v q := FracV.le h hl
/-- A rational number in any form, with at most N limbs. -/
def RawV (H : Heap) (v : Value) (q : Rat) (N : Nat) : Prop := ∃ f u w l1 l2, v = .agg #[.bool f, u, w] ∧ LimV H u l1 ∧ LimV H w l2 ∧ (∀ x, x ∈ l1 → x < 4294967296) ∧ (∀ x, x ∈ l2 → x < 4294967296) ∧ l1.length ≤ N ∧ l2.length ≤ N ∧ q = frac f (val l1) (val l2)
theorem RawV.le {H H' : Heap} {v : Value} {q : Rat} {N : Nat} (h : RawV H v q N) (hl : Heap.le H H') : RawV H' v q N := by
  obtain ⟨f, u, w, l1, l2, h1, h2, h3, h4⟩ := h
  exact ⟨f, u, w, l1, l2, h1, h2.le hl, h3.le hl, h4⟩
theorem RawV.mono {H : Heap} {v : Value} {q : Rat} {N M : Nat} (h : RawV H v q N) (hl : N ≤ M) : RawV H v q M := by
  obtain ⟨f, u, w, l1, l2, h1, h2, h3, h4, h5, h6, h7, h8⟩ := h
  exact ⟨f, u, w, l1, l2, h1, h2, h3, h4, h5, by omega, by omega, h8⟩
/-- The size of a number. -/
def szQ (q : Rat) : Nat := max (limbs q.num.natAbs).length (limbs q.den).length
theorem frac_self (q : Rat) : frac (decide (q.num < 0)) q.num.natAbs q.den = q := by
  rw [frac, sg_int, Rat.mkRat_self]
theorem lt32 {x : Nat} : ∀ y, y ∈ limbs x → y < 4294967296 := fun y hy => by
  have := (nrm_limbs x).lt y hy
  rw [B_eq] at this; omega
theorem CanV.raw {H : Heap} {v : Value} {q : Rat} (h : CanV H v q) : RawV H v q (szQ q) := by
  obtain ⟨u, w, h1, h2, h3⟩ := h
  exact ⟨_, u, w, _, _, h1, h2, h3, lt32, lt32, Nat.le_max_left _ _, Nat.le_max_right _ _, by rw [val_limbs, val_limbs, frac_self]⟩
/-- What a function returns that gives a rational number. -/
def RetQ (H : Heap) (q : Rat) (v : Value) (H' : Heap) : Prop := Heap.le H H' ∧ CanV H' v q
theorem RetQ.le {H : Heap} {q : Rat} {v : Value} {H' : Heap} (h : RetQ H q v H') : Heap.le H H' := h.1
/-- What a function returns that gives a fraction. -/
def RetFr (H : Heap) (q : Rat) (K : Nat) (v : Value) (H' : Heap) : Prop := Heap.le H H' ∧ ∃ f n d, FracV H' v f n d ∧ 0 < d ∧ frac f n d = q ∧ (limbs n).length ≤ K ∧ (limbs d).length ≤ K
theorem RetFr.le {H : Heap} {q : Rat} {K : Nat} {v : Value} {H' : Heap} (h : RetFr H q K v H') : Heap.le H H' := h.1
/-- What a function returns that changes nothing. -/
def RetE (H : Heap) (x : Value) (v : Value) (H' : Heap) : Prop := H' = H ∧ v = x
theorem RetE.le {H : Heap} {x : Value} {v : Value} {H' : Heap} (h : RetE H x v H') : Heap.le H H' := by rw [h.1]; exact .refl _
theorem limbs_one : limbs 1 = [1] := by
  rw [limbs_pos (by decide)]
  rw [show 1 / B = 0 by decide, show 1 % B = 1 by decide, limbs_zero]
theorem natV_one {H : Heap} {g e : Nat} : NatV (ins H g (whole (cellsL [.int .u32 1]) e)) (.slice (some ⟨g, 0, none⟩) 1 1) 1 := by
  refine ⟨some ⟨g, 0, none⟩, 1, ?_, ?_, ?_⟩
  · rw [limbs_one]; rfl
  · rw [limbs_one]; exact Nat.le_refl _
  · rw [limbs_one]; exact rd_u1 (y := 1) rfl
theorem len_val32 {l : List Nat} (h : ∀ x, x ∈ l → x < 4294967296) : (limbs (val l)).length ≤ l.length + 1 := by
  refine limbs_len_le.2 ?_
  have : val l + 5 ≤ 5 * B ^ l.length := by
    induction l with
    | nil => simp [val]
    | cons x l ih =>
      have h1 := ih (fun y hy => h y (List.mem_cons_of_mem _ hy))
      have h2 := h x (List.mem_cons_self ..)
      rw [val_cons, List.length_cons, Nat.pow_succ]
      have h3 : B * (val l + 5) ≤ B * (5 * B ^ l.length) := Nat.mul_le_mul_left _ h1
      have h4 : B * (5 * B ^ l.length) = 5 * (B ^ l.length * B) := by rw [Nat.mul_left_comm, Nat.mul_comm B]
      have h5 : B * 5 = 5000000000 := by decide
      rw [Nat.mul_add] at h3
      omega
  have h5 : 5 * B ^ l.length ≤ B * B ^ l.length := Nat.mul_le_mul_right _ (by decide)
  rw [Nat.pow_succ, Nat.mul_comm _ B]; omega
theorem len_mul (x y : Nat) : (limbs (x * y)).length ≤ (limbs x).length + (limbs y).length := by
  refine limbs_len_le.2 ?_
  rw [Nat.pow_add]
  exact Nat.mul_lt_mul'' (limbs_lt x) (limbs_lt y)
theorem len_add {x y k : Nat} (hx : (limbs x).length ≤ k) (hy : (limbs y).length ≤ k) : (limbs (x + y)).length ≤ k + 1 := by
  refine limbs_len_le.2 ?_
  have h1 := limbs_len_le.1 hx
  have h2 := limbs_len_le.1 hy
  have h3 : B ^ k * 2 ≤ B ^ k * B := Nat.mul_le_mul_left _ (by decide)
  rw [Nat.pow_succ]; omega
end Go.Eng
/- Walks over package rational, rational.go, part 1. -/
namespace Go.Eng
open Go.Proofs Num
theorem compare_e {H : Heap} {u v : Value} {x y : Nat} (hx : NatV H u x) (hy : NatV H v y) (hm : ((limbs x).length : Int) ≤ 35184372088832) : Fn Tryz.prog 199 #[u, v] H (RetE H (.int .i64 (cmpN x y))) := by
  obtain ⟨A, c, rfl, hc, hr⟩ := hx
  obtain ⟨A', c', rfl, hc', hr'⟩ := hy
  exact compare_ok hr hr' hm
theorem isOne_e {H : Heap} {u : Value} {x : Nat} (hx : NatV H u x) : Fn Tryz.prog 208 #[u] H (RetE H (.bool (decide (x = 1)))) := by
  obtain ⟨A, c, rfl, hc, hr⟩ := hx
  exact isOne_ok hr
theorem normal_e {H : Heap} {u : Value} {l : List Nat} (hu : LimV H u l) (h32 : ∀ x, x ∈ l → x < 4294967296) (hm : (l.length : Int) ≤ 8796093022208) : Fn Tryz.prog 194 #[u] H (RetN H (val l)) := by
  obtain ⟨A, c, rfl, hc, hr⟩ := hu
  exact normal_ok h32 hr hm
theorem load_ok {H : Heap} {v : Value} {q : Rat} {N : Nat} (hv : RawV H v q N) (hN : (N : Int) ≤ 4398046511104) :
  Fn Tryz.prog 153 #[v] H (RetFr H q (N + 1)) := by
 obtain ⟨f, u, w, l1, l2, rfl, hu, hw, h1, h2, hl1, hl2, rfl⟩ := hv; refine fn_intro (args := [_]) Tryz.func153 rfl rfl Tryz.ntmps153 rfl rfl fun w0 => ?_; refine vc_keep [0] rfl ?_; refine vc_sr ?_; refine vco_box rfl rfl ?_; refine vco_alloc el179 rfl ?_; refine vco_k [1, 2] ?_; refine vc_sd .drawB [0, 1, 3, 4, 2, 5, 6, 7] follows (by kernel_rfl) ?_; refine vr 4 ?_; refine vco_callM rfl rfl (normal_e hu h1 (by omega)) (fun _ _ h => h.le) ?_; intro v1 H1 hp1; refine vco_callM rfl rfl (normal_e (hw.le hp1.le) h2 (by omega)) (fun _ _ h => h.le) ?_; intro v2 H2 hp2; obtain ⟨B1, b1, rfl, hb1, hrb1⟩ := hp1.nat.le hp2.le; obtain ⟨B2, b2, rfl, hb2, hrb2⟩ := hp2.nat; have hle2 := hp1.le.trans hp2.le; have hz1 := len_val32 h1; have hz2 := len_val32 h2; refine vr 2 ?_; refine vco_k [1, 2, 3, 4] ?_; refine vc_seq ?_
 by_cases hn0 : (limbs (val l1)).length = 0
 ·
  skip
  refine vc_sr ?_; refine vr 2 ?_; refine vco_cmp true rfl rfl (ceq_t (by omega)) ?_; refine vr 5 ?_; refine vco_k [1, 2, 3, 4, 18] ?_; refine vc_cond_t rfl ?_; refine vc_sr ?_; refine vco_build Tryz.underlying177 el121 rfl rfl rfl rfl rfl rfl rfl ?_; intro gb hgb; refine vco_st tbOk rfl el179 rfl rfl ?_; obtain ⟨ti, hti, htz⟩ := sz179; refine vco_bstore (.inl ⟨rfl, rfl⟩) rfl rfl rfl hti htz rfl rfl rfl ?_; refine vco_k [2] ?_; obtain ⟨ri0, rhi0, rhz0⟩ := sz179; refine vc_ret ⟨.inr rfl, _, .agg rfl Tryz.underlying179 rhi0 rhz0 (.nil), ?_⟩; exact ⟨hle2.trans (Heap.le_ins _ hgb), false, 0, 1, ⟨_, _, rfl, natV_zero _, natV_one⟩, by decide, by rw [limbs_len_zero.1 hn0, frac_num0, frac_num0], by rw [limbs_zero]; simp, by rw [limbs_one]; simp⟩
 ·
  skip
  refine vc_sr ?_; refine vr 2 ?_; refine vco_cmp false rfl rfl (ceq_f (by omega)) ?_; refine vr 5 ?_; refine vco_k [1, 2, 3, 4, 18] ?_; refine vc_cond rfl (fun hb => ?_) (fun hb => ?_)
  ·
   have hb : (limbs (val l2)).length = 0 := by simpa using hb
   refine vc_sr ?_; refine vco_build Tryz.underlying177 el121 rfl rfl rfl rfl rfl rfl rfl ?_; intro gb hgb; refine vco_st tbOk rfl el179 rfl rfl ?_; obtain ⟨ti, hti, htz⟩ := sz179; refine vco_bstore (.inl ⟨rfl, rfl⟩) rfl rfl rfl hti htz rfl rfl rfl ?_; refine vco_k [2] ?_; obtain ⟨ri0, rhi0, rhz0⟩ := sz179; refine vc_ret ⟨.inr rfl, _, .agg rfl Tryz.underlying179 rhi0 rhz0 (.nil), ?_⟩; exact ⟨hle2.trans (Heap.le_ins _ hgb), false, 0, 1, ⟨_, _, rfl, natV_zero _, natV_one⟩, by decide, by rw [limbs_len_zero.1 hb, frac_den0, frac_num0], by rw [limbs_zero]; simp, by rw [limbs_one]; simp⟩
  ·
   have hb : (limbs (val l2)).length ≠ 0 := by simpa using hb
   refine vc_skip ?_; refine vc_keep [1, 2, 3, 4] rfl ?_; refine vc_sr ?_; refine vr 4 ?_; refine vco_st tbOk rfl el179 rfl rfl ?_; obtain ⟨ti, hti, htz⟩ := sz179; refine vco_bstore (.inl ⟨rfl, rfl⟩) rfl rfl rfl hti htz rfl rfl rfl ?_; refine vco_k [2] ?_; obtain ⟨ri0, rhi0, rhz0⟩ := sz179; refine vc_ret ⟨.inr rfl, _, .agg rfl Tryz.underlying179 rhi0 rhz0 (.nil), ?_⟩; exact ⟨hle2, f, val l1, val l2, ⟨_, _, rfl, ⟨B1, b1, rfl, hb1, hrb1⟩, ⟨B2, b2, rfl, hb2, hrb2⟩⟩, Nat.pos_of_ne_zero (fun e => hb (limbs_len_zero.2 e)), rfl, by omega, by omega⟩
theorem lowest_ok {H : Heap} {v : Value} {f : Bool} {n d : Nat} (hv : FracV H v f n d) (hd : 0 < d) (hn1 : ((limbs n).length : Int) < 8796093022208) (hd1 : ((limbs d).length : Int) < 8796093022208) :
  Fn Tryz.prog 196 #[v] H (RetQ H (frac f n d)) := by
 obtain ⟨u, w, rfl, hu, hw⟩ := hv
 obtain ⟨A, c, rfl, hc, hr⟩ := id hu
 obtain ⟨A2, c2, rfl, hc2, hr2⟩ := id hw; refine fn_intro (args := [_]) Tryz.func196 rfl rfl Tryz.ntmps196 rfl rfl fun w0 => ?_; refine vc_keep [0] rfl ?_; refine vc_sr ?_; refine vco_box rfl rfl ?_; refine vco_alloc el179 rfl ?_; refine vco_k [1, 2] ?_; refine vc_seq ?_; refine vc_sr ?_; refine vr 4 ?_; refine vco_k [1, 2, 11] ?_; refine vc_cond rfl (fun hb => ?_) (fun hb => ?_)
 ·
  have hb : n = 0 := limbs_len_zero.1 (by simpa using hb); subst hb; refine vc_sr ?_; refine vco_build Tryz.underlying177 el121 rfl rfl rfl rfl rfl rfl rfl ?_; intro gb hgb; refine vco_st tbOk rfl el179 rfl rfl ?_; obtain ⟨ti, hti, htz⟩ := sz179; refine vco_bstore (.inl ⟨rfl, rfl⟩) rfl rfl rfl hti htz rfl rfl rfl ?_; refine vco_k [2] ?_; obtain ⟨ri0, rhi0, rhz0⟩ := sz179; refine vc_ret ⟨.inr rfl, _, .agg rfl Tryz.underlying179 rhi0 rhz0 (.nil), ?_⟩; exact ⟨Heap.le_ins _ hgb, by rw [frac_num0]; exact ⟨_, _, rfl, natV_zero _, natV_one⟩⟩
 ·
  have hn0 : 0 < n := Nat.pos_of_ne_zero fun e => by rw [limbs_len_zero.2 e] at hb; simp at hb
  refine vc_skip ?_; refine vc_keep [1, 2] rfl ?_; refine vc_seq ?_; refine vc_sr ?_; refine vr 2 ?_; refine vco_call rfl rfl (isOne_e hw) ?_; rintro v1 H1 ⟨rfl, rfl⟩; refine vco_k [1, 2, 16] ?_; refine vc_cond rfl (fun hb => ?_) (fun hb => ?_)
  ·
   have hd2 : d = 1 := by simpa using hb
   subst hd2; refine vc_sr ?_; refine vr 1 ?_; obtain ⟨ti, hti, htz⟩ := sz179; refine vco_bstore (.inl ⟨rfl, rfl⟩) rfl rfl rfl hti htz rfl rfl rfl ?_; refine vco_k [2] ?_; obtain ⟨ri0, rhi0, rhz0⟩ := sz179; refine vc_ret ⟨.inr rfl, _, .agg rfl Tryz.underlying179 rhi0 rhz0 (.nil), ?_⟩; refine ⟨.refl _, ?_⟩
   unfold CanV
   rw [frac_sign hd hn0, frac_abs hd, frac_den hd, Nat.gcd_one_right, Nat.div_one, Nat.div_one]; exact ⟨_, _, rfl, hu, hw⟩
  ·
   skip
   refine vc_skip ?_; refine vc_keep [1, 2] rfl ?_; refine vc_sr ?_; refine vr 4 ?_; refine vco_call rfl rfl (gcd_ok hu hw hn1 hd1) ?_; rintro v1 H2 hp; obtain ⟨v1, rfl⟩ : ∃ x, x = v1 := ⟨_, rfl⟩; have hg0 : 0 < Nat.gcd n d := Nat.gcd_pos_of_pos_left _ hn0; refine vr 1 ?_; refine vco_k [1, 2, 3] ?_; refine vc_seq ?_; refine vc_sr ?_; refine vr 1 ?_; refine vco_call rfl rfl (isOne_e hp.nat) ?_; rintro v2 H3 ⟨rfl, rfl⟩; refine vco_k [1, 2, 3, 24] ?_; refine vc_cond rfl (fun hb => ?_) (fun hb => ?_)
   ·
    have hg1 : Nat.gcd n d = 1 := by simpa using hb
    refine vc_sr ?_; refine vr 1 ?_; obtain ⟨ti, hti, htz⟩ := sz179; refine vco_bstore (.inl ⟨rfl, rfl⟩) rfl rfl rfl hti htz rfl rfl rfl ?_; refine vco_k [2] ?_; obtain ⟨ri0, rhi0, rhz0⟩ := sz179; refine vc_ret ⟨.inr rfl, _, .agg rfl Tryz.underlying179 rhi0 rhz0 (.nil), ?_⟩; refine ⟨hp.le, ?_⟩
    unfold CanV
    rw [frac_sign hd hn0, frac_abs hd, frac_den hd, hg1, Nat.div_one, Nat.div_one]; exact ⟨_, _, rfl, hu.le hp.le, hw.le hp.le⟩
   ·
    skip
    refine vc_skip ?_; refine vc_keep [1, 2, 3] rfl ?_; refine vc_sr ?_; refine vr 3 ?_; refine vco_call rfl rfl (divide_ok (hu.le hp.le) hp.nat hg0 hn1) ?_; rintro v2 H4 ⟨hle4, q1, r1, rfl, hq1, hr1⟩; refine vr 5 ?_; refine vco_k [1, 2, 3, 4] ?_; refine vc_sr ?_; refine vr 3 ?_; refine vco_call rfl rfl (divide_ok (hw.le (hp.le.trans hle4)) (hp.nat.le hle4) hg0 hd1) ?_; rintro v2 H5 ⟨hle5, q2, r2, rfl, hq2, hr5⟩; obtain ⟨A3, c3, rfl, hc3, hr3⟩ := hq1.le hle5; obtain ⟨A4, c4, rfl, hc4, hr4⟩ := id hq2; refine vr 5 ?_; refine vco_k [1, 2, 4, 6] ?_; refine vc_sr ?_; refine vr 4 ?_; refine vco_st tbOk rfl el179 rfl rfl ?_; obtain ⟨ti, hti, htz⟩ := sz179; refine vco_bstore (.inl ⟨rfl, rfl⟩) rfl rfl rfl hti htz rfl rfl rfl ?_; refine vco_k [2] ?_; obtain ⟨ri0, rhi0, rhz0⟩ := sz179; refine vc_ret ⟨.inr rfl, _, .agg rfl Tryz.underlying179 rhi0 rhz0 (.nil), ?_⟩; refine ⟨(hp.le.trans hle4).trans hle5, ?_⟩
    unfold CanV
    rw [frac_sign hd hn0, frac_abs hd, frac_den hd]; exact ⟨_, _, rfl, ⟨A3, c3, rfl, hc3, hr3⟩, hq2⟩
theorem store_ok {H : Heap} {v : Value} {f : Bool} {n d : Nat} (hv : FracV H v f n d) (hd : 0 < d) (hn1 : ((limbs n).length : Int) < 8796093022208) (hd1 : ((limbs d).length : Int) < 8796093022208) :
  Fn Tryz.prog 156 #[v] H (RetQ H (frac f n d)) := by
 obtain ⟨u, w, rfl, hu, hw⟩ := id hv; refine fn_intro (args := [_]) Tryz.func156 rfl rfl Tryz.ntmps156 rfl rfl fun w0 => ?_; refine vc_keep [0] rfl ?_; refine vc_sr ?_; refine vco_box rfl rfl ?_; refine vco_alloc el31 rfl ?_; refine vco_k [1, 2] ?_; refine vc_sr ?_; refine vr 1 ?_; refine vco_call rfl rfl (lowest_ok hv hd hn1 hd1) ?_; rintro v1 H1 ⟨hle, u1, w1, rfl, hu1, hw1⟩; obtain ⟨A, c, rfl, hc, hr⟩ := id hu1; obtain ⟨A2, c2, rfl, hc2, hr2⟩ := id hw1; refine vco_alloc el179 rfl ?_; obtain ⟨ti, hti, htz⟩ := sz179; refine vco_bstore (.inl ⟨rfl, rfl⟩) rfl rfl rfl hti htz rfl rfl rfl ?_; refine vco_k [2, 3] ?_; refine vc_sr ?_; refine vr 6 ?_; refine vco_st tbOk rfl el31 rfl rfl ?_; obtain ⟨ti, hti, htz⟩ := sz31; refine vco_bstore (.inl ⟨rfl, rfl⟩) rfl rfl rfl hti htz rfl rfl rfl ?_; refine vco_k [2] ?_; obtain ⟨ri0, rhi0, rhz0⟩ := sz31; refine vc_ret ⟨.inr rfl, _, .agg rfl Tryz.underlying31 rhi0 rhz0 (.nil), ?_⟩; exact ⟨hle, _, _, rfl, hu1, hw1⟩
theorem sign_ok {H : Heap} {v : Value} {f : Bool} {n d : Nat} (hv : FracV H v f n d) (hd : 0 < d) :
  Fn Tryz.prog 154 #[v] H (RetE H (.int .i64 (sgnQ (frac f n d)))) := by
 obtain ⟨u, w, rfl, hu, hw⟩ := id hv
 obtain ⟨A, c, rfl, hc, hr⟩ := id hu; refine fn_intro (args := [_]) Tryz.func154 rfl rfl Tryz.ntmps154 rfl rfl fun w0 => ?_; refine vc_keep [0] rfl ?_; refine vc_sr ?_; refine vco_box rfl rfl ?_; refine vr 1 ?_; refine vco_k [1] ?_; refine vc_seq ?_; refine vc_block ?_; refine vc_sr ?_; refine vr 5 ?_; refine vco_k [1, 3] ?_; refine vc_cond rfl (fun hb => ?_) (fun hb => ?_)
 ·
  have hb : n = 0 := limbs_len_zero.1 (by simpa using hb); refine vc_sr ?_; refine vr 1 ?_; refine vco_k [2] ?_; refine vc_ret ⟨.inr rfl, _, .tmp rfl (.nil), ?_⟩; exact ⟨rfl, by rw [sgn_frac hd, if_pos hb]; rfl⟩
 ·
  have hn0 : n ≠ 0 := fun e => by rw [limbs_len_zero.2 e] at hb; simp at hb
  refine vc_sr ?_; refine vr 3 ?_; refine vco_k [8] ?_; refine vc_cond rfl (fun hb => ?_) (fun hb => ?_)
  ·
   subst hb; refine vc_sr ?_; refine vr 1 ?_; refine vco_k [2] ?_; refine vc_ret ⟨.inr rfl, _, .tmp rfl (.nil), ?_⟩; exact ⟨rfl, by rw [sgn_frac hd, if_neg hn0]; rfl⟩
  ·
   subst hb; refine vc_skip ?_; refine vc_keep [] rfl ?_; refine vc_sr ?_; refine vr 1 ?_; refine vco_k [2] ?_; refine vc_ret ⟨.inr rfl, _, .tmp rfl (.nil), ?_⟩; exact ⟨rfl, by rw [sgn_frac hd, if_neg hn0]; rfl⟩
end Go.Eng
/- Walks over package rational, rational.go, part 2. -/
namespace Go.Eng
open Go.Proofs Num
theorem wrap_u64 (n : Int) : IntKind.u64.wrap n = n % 18446744073709551616 := rfl
theorem cmpN_ge {x y : Nat} : (0 ≤ cmpN x y) ↔ y ≤ x := by
  unfold cmpN; split
  · omega
  · split <;> omega
theorem plus_ok {H : Heap} {u v : Value} {f g : Bool} {n d m e K : Nat} (hf : FracV H u f n d) (hg : FracV H v g m e) (hd : 0 < d) (he : 0 < e) (h1 : (limbs n).length ≤ K) (h2 : (limbs d).length ≤ K) (h3 : (limbs m).length ≤ K) (h4 : (limbs e).length ≤ K) (hK : (K : Int) ≤ 2199023255552) :
  Fn Tryz.prog 182 #[u, v] H (RetFr H (frac f n d + frac g m e) (2 * K + 1)) := by
 obtain ⟨un, ud, rfl, hun, hud⟩ := id hf
 obtain ⟨vm, ve, rfl, hvm, hve⟩ := id hg
 have hm1 := len_mul n e
 have hm2 := len_mul m d
 have hm3 := len_mul d e
 have hde := Nat.mul_pos hd he
 have hs1 := len_add (x := n * e) (y := m * d) (k := 2 * K) (by omega) (by omega); refine fn_intro (args := [_, _]) Tryz.func182 rfl rfl Tryz.ntmps182 rfl rfl fun w0 => ?_; refine vc_keep [0, 1] rfl ?_; refine vc_sr ?_; refine vco_box rfl rfl ?_; refine vco_box rfl rfl ?_; refine vco_alloc el179 rfl ?_; refine vco_k [2, 3, 4] ?_; refine vc_sd .drawB [0, 1, 2, 3, 5, 6, 7, 8, 4, 9, 10, 11] follows (by kernel_rfl) ?_; refine vr 8 ?_; refine vco_callM rfl rfl (nmul_ok hun hve (by omega) (by omega)) (fun _ _ h => h.le) ?_; intro v1 H1 hp1; refine vco_callM rfl rfl (nmul_ok (hvm.le hp1.le) (hud.le hp1.le) (by omega) (by omega)) (fun _ _ h => h.le) ?_; intro v2 H2 hp2; refine vr 2 ?_; refine vco_k [2, 3, 4, 5, 6] ?_; refine vc_sr ?_; refine vr 4 ?_; refine vco_call rfl rfl (nmul_ok (hud.le (hp1.le.trans hp2.le)) (hve.le (hp1.le.trans hp2.le)) (by omega) (by omega)) ?_; intro v3 H3 hp3; have hle3 := (hp1.le.trans hp2.le).trans hp3.le; have hn1 := hp1.nat.le (hp2.le.trans hp3.le); have hn2 := hp2.nat.le hp3.le; have hn3 := hp3.nat; obtain ⟨Ahn1, chn1, rfl, hchn1, hrhn1⟩ := id hn1; obtain ⟨Ahn2, chn2, rfl, hchn2, hrhn2⟩ := id hn2; obtain ⟨Ahn3, chn3, rfl, hchn3, hrhn3⟩ := id hn3; refine vr 1 ?_; refine vco_k [2, 3, 4, 5, 6, 7] ?_; refine vc_seq ?_; refine vc_sr ?_; refine vr 4 ?_; refine vco_eqb Tryz.underlying4 rfl rfl ?_; refine vco_k [2, 3, 4, 5, 6, 7, 27] ?_; refine vc_cond rfl (fun hb => ?_) (fun hb => ?_)
 ·
  have hfg : f = g := by simpa using hb
  subst hfg; refine vc_sd .drawB [0, 1, 2, 3, 5, 4, 6, 7] follows (by kernel_rfl) ?_; refine vr 5 ?_; refine vco_callM rfl rfl (nadd_ok hn1 hn2 (by omega) (by omega)) (fun _ _ h => h.le) ?_; intro v4 H4 hp4; have hn4 := hp4.nat; obtain ⟨Ahn4, chn4, rfl, hchn4, hrhn4⟩ := id hn4; refine vco_st tbOk rfl el179 rfl rfl ?_; obtain ⟨ti, hti, htz⟩ := sz179; refine vco_bstore (.inl ⟨rfl, rfl⟩) rfl rfl rfl hti htz rfl rfl rfl ?_; refine vco_k [4] ?_; obtain ⟨ri0, rhi0, rhz0⟩ := sz179; refine vc_ret ⟨.inr rfl, _, .agg rfl Tryz.underlying179 rhi0 rhz0 (.nil), ?_⟩; exact ⟨hle3.trans hp4.le, f, n * e + m * d, d * e, ⟨_, _, rfl, hn4, hn3.le hp4.le⟩, hde, (frac_add_same f hd he).symm, by omega, by omega⟩
 ·
  have hfg : f ≠ g := by simpa using hb
  refine vc_skip ?_; refine vc_keep [2, 3, 4, 5, 6, 7] rfl ?_; refine vc_seq ?_; refine vc_sr ?_; refine vr 2 ?_; refine vco_call rfl rfl (compare_e hn1 hn2 (by omega)) ?_; rintro v4 H4 ⟨rfl, rfl⟩; refine vr 1 ?_; refine vco_k [2, 3, 4, 5, 6, 7, 38] ?_; refine vc_cond rfl (fun hb => ?_) (fun hb => ?_)
  ·
   have hb : m * d ≤ n * e := cmpN_ge.1 (by simpa using hb); have hs2 := limbs_len_mono (Nat.sub_le (n * e) (m * d)); refine vc_sd .drawB [0, 1, 2, 3, 5, 4, 6, 7] follows (by kernel_rfl) ?_; refine vr 5 ?_; refine vco_callM rfl rfl (nsub_ok hn1 hn2 hb (by omega)) (fun _ _ h => h.le) ?_; intro v4 H4 hp4; have hn4 := hp4.nat; obtain ⟨Ahn4, chn4, rfl, hchn4, hrhn4⟩ := id hn4; refine vco_st tbOk rfl el179 rfl rfl ?_; obtain ⟨ti, hti, htz⟩ := sz179; refine vco_bstore (.inl ⟨rfl, rfl⟩) rfl rfl rfl hti htz rfl rfl rfl ?_; refine vco_k [4] ?_; obtain ⟨ri0, rhi0, rhz0⟩ := sz179; refine vc_ret ⟨.inr rfl, _, .agg rfl Tryz.underlying179 rhi0 rhz0 (.nil), ?_⟩; exact ⟨hle3.trans hp4.le, f, n * e - m * d, d * e, ⟨_, _, rfl, hn4, hn3.le hp4.le⟩, hde, (frac_add_ge hfg hd he hb).symm, by omega, by omega⟩
  ·
   have hb : ¬ m * d ≤ n * e := fun h => by have := cmpN_ge.2 h; simp at hb; omega
   have hb : n * e ≤ m * d := by omega
   have hs2 := limbs_len_mono (Nat.sub_le (m * d) (n * e)); refine vc_skip ?_; refine vc_keep [3, 4, 5, 6, 7] rfl ?_; refine vc_sd .drawB [0, 1, 2, 3, 5, 4, 6, 7] follows (by kernel_rfl) ?_; refine vr 5 ?_; refine vco_callM rfl rfl (nsub_ok hn2 hn1 hb (by omega)) (fun _ _ h => h.le) ?_; intro v4 H4 hp4; have hn4 := hp4.nat; obtain ⟨Ahn4, chn4, rfl, hchn4, hrhn4⟩ := id hn4; refine vco_st tbOk rfl el179 rfl rfl ?_; obtain ⟨ti, hti, htz⟩ := sz179; refine vco_bstore (.inl ⟨rfl, rfl⟩) rfl rfl rfl hti htz rfl rfl rfl ?_; refine vco_k [4] ?_; obtain ⟨ri0, rhi0, rhz0⟩ := sz179; refine vc_ret ⟨.inr rfl, _, .agg rfl Tryz.underlying179 rhi0 rhz0 (.nil), ?_⟩; exact ⟨hle3.trans hp4.le, g, m * d - n * e, d * e, ⟨_, _, rfl, hn4, hn3.le hp4.le⟩, hde, (frac_add_lt hfg hd he hb).symm, by omega, by omega⟩
theorem magnitude_ok {H : Heap} {n : Int} (h1 : -9223372036854775808 ≤ n) (h2 : n ≤ 9223372036854775807) :
  Fn Tryz.prog 155 #[.int .i64 n] H (RetN H n.natAbs) := by
 refine fn_intro (args := [_]) Tryz.func155 rfl rfl Tryz.ntmps155 rfl rfl fun w0 => ?_; refine vc_keep [0] rfl ?_; refine vc_sr ?_; refine vr 1 ?_; refine vco_k [0] ?_; refine vc_seq ?_; refine vc_sr ?_; refine vr 2 ?_; refine vco_k [0, 4] ?_; refine vc_cond rfl (fun hb => ?_) (fun hb => ?_)
 ·
  have hb : n < 0 := by simpa using hb
  refine vc_sr ?_; refine vr 1 ?_; refine vco_convw tbOk rfl rfl rfl ?_; refine vco_negw rfl ?_; rw [show IntKind.u64.wrap (-IntKind.u64.wrap n) = ((n.natAbs : Nat) : Int) by rw [wrap_u64, wrap_u64]; omega]; refine vco_call rfl rfl (fromWord_ok (by omega)) ?_; intro v1 H1 hp; refine vr 1 ?_; refine vco_k [2] ?_; refine vc_ret ⟨.inr rfl, _, .tmp rfl (.nil), ?_⟩; exact hp
 ·
  have hb : 0 ≤ n := by simpa using hb
  refine vc_skip ?_; refine vc_keep [0] rfl ?_; refine vc_sr ?_; refine vr 1 ?_; refine vco_convw tbOk rfl rfl rfl ?_; rw [show IntKind.u64.wrap n = ((n.natAbs : Nat) : Int) by rw [wrap_u64]; omega]; refine vco_call rfl rfl (fromWord_ok (by omega)) ?_; intro v1 H1 hp; refine vr 1 ?_; refine vco_k [2] ?_; refine vc_ret ⟨.inr rfl, _, .tmp rfl (.nil), ?_⟩; exact hp
theorem FromInt_ok {H : Heap} {n : Int} (h1 : -9223372036854775808 ≤ n) (h2 : n ≤ 9223372036854775807) :
  Fn Tryz.prog 85 #[.int .i64 n] H (RetQ H (n : Rat)) := by
 have hl3 : (limbs n.natAbs).length ≤ 3 := limbs_len_le.2 (by rw [B_eq]; omega); refine fn_intro (args := [_]) Tryz.func85 rfl rfl Tryz.ntmps85 rfl rfl fun w0 => ?_; refine vc_keep [0] rfl ?_; refine vc_sr ?_; refine vco_alloc el31 rfl ?_; refine vco_k [0, 2] ?_; refine vc_sr ?_; refine vr 3 ?_; refine vco_call rfl rfl (magnitude_ok h1 h2) ?_; intro v1 H1 hp; have hn1 := hp.nat; obtain ⟨Ahn1, chn1, rfl, hchn1, hrhn1⟩ := id hn1; refine vco_build Tryz.underlying177 el121 rfl rfl rfl rfl rfl rfl rfl ?_; intro gb hgb; refine vco_st tbOk rfl el179 rfl rfl ?_; refine vco_call rfl rfl (store_ok (f := decide (n < 0)) (n := n.natAbs) (d := 1) ⟨_, _, rfl, hn1.le (Heap.le_ins _ hgb), natV_one⟩ (by decide) (by omega) (by rw [limbs_one]; decide)) ?_; rintro v1 H2 ⟨hle, hq⟩; rw [frac_int] at hq; obtain ⟨u1, w1, rfl, hu1, hw1⟩ := id hq; obtain ⟨Ahu1, chu1, rfl, hchu1, hrhu1⟩ := id hu1; obtain ⟨Ahw1, chw1, rfl, hchw1, hrhw1⟩ := id hw1; obtain ⟨ti, hti, htz⟩ := sz31; refine vco_bstore (.inl ⟨rfl, rfl⟩) rfl rfl rfl hti htz rfl rfl rfl ?_; refine vco_k [2] ?_; obtain ⟨ri0, rhi0, rhz0⟩ := sz31; refine vc_ret ⟨.inr rfl, _, .agg rfl Tryz.underlying31 rhi0 rhz0 (.nil), ?_⟩; exact ⟨(hp.le.trans (Heap.le_ins _ hgb)).trans hle, hq⟩
theorem Small_ok {H : Heap} {a b : Int} (h1 : -9223372036854775808 ≤ a) (h2 : a ≤ 9223372036854775807) (h3 : -9223372036854775808 ≤ b) (h4 : b ≤ 9223372036854775807) :
  Fn Tryz.prog 133 #[.int .i64 a, .int .i64 b] H (RetQ H ((a : Rat) / (b : Rat))) := by
 have hl3 : (limbs a.natAbs).length ≤ 3 := limbs_len_le.2 (by rw [B_eq]; omega)
 have hl4 : (limbs b.natAbs).length ≤ 3 := limbs_len_le.2 (by rw [B_eq]; omega); refine fn_intro (args := [_, _]) Tryz.func133 rfl rfl Tryz.ntmps133 rfl rfl fun w0 => ?_; refine vc_keep [0, 1] rfl ?_; refine vc_sr ?_; refine vco_alloc el31 rfl ?_; refine vco_k [0, 1, 4] ?_; refine vc_seq ?_; refine vc_sr ?_; refine vr 2 ?_; refine vco_k [0, 1, 4, 6] ?_; refine vc_cond rfl (fun hb => ?_) (fun hb => ?_)
 ·
  have hb : b = 0 := by simpa using hb
  subst hb; refine vc_sr ?_; refine vco_call rfl rfl (FromInt_ok (n := 0) (by decide) (by decide)) ?_; rintro v1 H2 ⟨hle, hq⟩; obtain ⟨u1, w1, rfl, hu1, hw1⟩ := id hq; obtain ⟨Ahu1, chu1, rfl, hchu1, hrhu1⟩ := id hu1; obtain ⟨Ahw1, chw1, rfl, hchw1, hrhw1⟩ := id hw1; obtain ⟨ti, hti, htz⟩ := sz31; refine vco_bstore (.inl ⟨rfl, rfl⟩) rfl rfl rfl hti htz rfl rfl rfl ?_; refine vco_k [4] ?_; obtain ⟨ri0, rhi0, rhz0⟩ := sz31; refine vc_ret ⟨.inr rfl, _, .agg rfl Tryz.underlying31 rhi0 rhz0 (.nil), ?_⟩; exact ⟨hle, by rw [show (a : Rat) / ((0 : Int) : Rat) = ((0 : Int) : Rat) by simp [Rat.div_def]]; exact hq⟩
 ·
  have hb : b ≠ 0 := by simpa using hb
  refine vc_skip ?_; refine vc_keep [0, 1, 4] rfl ?_; refine vc_sr ?_; refine vr 4 ?_; refine vco_neb Tryz.underlying4 rfl rfl ?_; refine vr 1 ?_; refine vco_call rfl rfl (magnitude_ok h1 h2) ?_; intro v1 H1 hp1; refine vr 1 ?_; refine vco_call rfl rfl (magnitude_ok h3 h4) ?_; intro v2 H2 hp2; have hn1 := hp1.nat.le hp2.le; have hn2 := hp2.nat; obtain ⟨Ahn1, chn1, rfl, hchn1, hrhn1⟩ := id hn1; obtain ⟨Ahn2, chn2, rfl, hchn2, hrhn2⟩ := id hn2; refine vco_st tbOk rfl el179 rfl rfl ?_; refine vco_call rfl rfl (store_ok (f := decide (a < 0) != decide (b < 0)) (n := a.natAbs) (d := b.natAbs) ⟨_, _, rfl, hn1, hn2⟩ (by omega) (by omega) (by omega)) ?_; rintro v1 H3 ⟨hle, hq⟩; rw [frac_small] at hq; obtain ⟨u1, w1, rfl, hu1, hw1⟩ := id hq; obtain ⟨Ahu1, chu1, rfl, hchu1, hrhu1⟩ := id hu1; obtain ⟨Ahw1, chw1, rfl, hchw1, hrhw1⟩ := id hw1; obtain ⟨ti, hti, htz⟩ := sz31; refine vco_bstore (.inl ⟨rfl, rfl⟩) rfl rfl rfl hti htz rfl rfl rfl ?_; refine vco_k [4] ?_; obtain ⟨ri0, rhi0, rhz0⟩ := sz31; refine vc_ret ⟨.inr rfl, _, .agg rfl Tryz.underlying31 rhi0 rhz0 (.nil), ?_⟩; exact ⟨(hp1.le.trans hp2.le).trans hle, hq⟩
end Go.Eng
/- Walks over package rational, rational.go, part 3. -/
namespace Go.Eng
open Go.Proofs Num
theorem Canonical_ok {H : Heap} {v : Value} {q : Rat} {N : Nat} (hv : RawV H v q N) (hN : (N : Int) ≤ 1099511627776) :
  Fn Tryz.prog 86 #[v] H (RetQ H q) := by
 obtain ⟨bf, bu, bw, bl1, bl2, rfl, _⟩ := id hv; refine fn_intro (args := [_]) Tryz.func86 rfl rfl Tryz.ntmps86 rfl rfl fun w0 => ?_; refine vc_keep [0] rfl ?_; refine vc_sr ?_; refine vco_box rfl rfl ?_; refine vco_alloc el31 rfl ?_; refine vco_k [1, 2] ?_; refine vc_sr ?_; refine vr 1 ?_; refine vco_call rfl rfl (load_ok hv (by omega)) ?_; rintro v1 H1 ⟨hle1, f1, n1, d1, hfr1, hd1, rfl, hl1, hm1⟩; obtain ⟨un1, ud1, rfl, hun1, hud1⟩ := id hfr1; obtain ⟨Ahun1, chun1, rfl, hchun1, hrhun1⟩ := id hun1; obtain ⟨Ahud1, chud1, rfl, hchud1, hrhud1⟩ := id hud1; refine vco_call rfl rfl (store_ok hfr1 hd1 (by omega) (by omega)) ?_; rintro w2 G2 ⟨hlg2, hq2⟩; obtain ⟨u2, x2, rfl, hu2, hx2⟩ := id hq2; obtain ⟨Ahu2, chu2, rfl, hchu2, hrhu2⟩ := id hu2; obtain ⟨Ahx2, chx2, rfl, hchx2, hrhx2⟩ := id hx2; obtain ⟨ti, hti, htz⟩ := sz31; refine vco_bstore (.inl ⟨rfl, rfl⟩) rfl rfl rfl hti htz rfl rfl rfl ?_; refine vco_k [2] ?_; obtain ⟨ri0, rhi0, rhz0⟩ := sz31; refine vc_ret ⟨.inr rfl, _, .agg rfl Tryz.underlying31 rhi0 rhz0 (.nil), ?_⟩; exact ⟨hle1.trans hlg2, hq2⟩
theorem Sign_ok {H : Heap} {v : Value} {q : Rat} {N : Nat} (hv : RawV H v q N) (hN : (N : Int) ≤ 1099511627776) :
  Fn Tryz.prog 84 #[v] H (fun v H' => Heap.le H H' ∧ v = .int .i64 (sgnQ q)) := by
 obtain ⟨bf, bu, bw, bl1, bl2, rfl, _⟩ := id hv; refine fn_intro (args := [_]) Tryz.func84 rfl rfl Tryz.ntmps84 rfl rfl fun w0 => ?_; refine vc_keep [0] rfl ?_; refine vc_sr ?_; refine vco_box rfl rfl ?_; refine vr 1 ?_; refine vco_k [1] ?_; refine vc_sr ?_; refine vr 1 ?_; refine vco_call rfl rfl (load_ok hv (by omega)) ?_; rintro v1 H1 ⟨hle1, f1, n1, d1, hfr1, hd1, rfl, hl1, hm1⟩; obtain ⟨un1, ud1, rfl, hun1, hud1⟩ := id hfr1; obtain ⟨Ahun1, chun1, rfl, hchun1, hrhun1⟩ := id hun1; obtain ⟨Ahud1, chud1, rfl, hchud1, hrhud1⟩ := id hud1; refine vco_call rfl rfl (sign_ok hfr1 hd1) ?_; rintro v2 H2 ⟨rfl, rfl⟩; refine vr 1 ?_; refine vco_k [2] ?_; refine vc_ret ⟨.inr rfl, _, .tmp rfl (.nil), ?_⟩; exact ⟨hle1, rfl⟩
theorem Neg_ok {H : Heap} {v : Value} {q : Rat} {N : Nat} (hv : RawV H v q N) (hN : (N : Int) ≤ 1099511627776) :
  Fn Tryz.prog 131 #[v] H (RetQ H (-q)) := by
 obtain ⟨bf, bu, bw, bl1, bl2, rfl, _⟩ := id hv; refine fn_intro (args := [_]) Tryz.func131 rfl rfl Tryz.ntmps131 rfl rfl fun w0 => ?_; refine vc_keep [0] rfl ?_; refine vc_sr ?_; refine vco_box rfl rfl ?_; refine vco_alloc el31 rfl ?_; refine vco_k [1, 2] ?_; refine vc_sr ?_; refine vr 1 ?_; refine vco_call rfl rfl (load_ok hv (by omega)) ?_; rintro v1 H1 ⟨hle1, f1, n1, d1, hfr1, hd1, rfl, hl1, hm1⟩; obtain ⟨un1, ud1, rfl, hun1, hud1⟩ := id hfr1; obtain ⟨Ahun1, chun1, rfl, hchun1, hrhun1⟩ := id hun1; obtain ⟨Ahud1, chud1, rfl, hchud1, hrhud1⟩ := id hud1; refine vco_alloc el179 rfl ?_; obtain ⟨ti, hti, htz⟩ := sz179; refine vco_bstore (.inl ⟨rfl, rfl⟩) rfl rfl rfl hti htz rfl rfl rfl ?_; refine vco_k [2, 3] ?_; refine vc_sr ?_; refine vr 4 ?_; obtain ⟨ti, hti, htz⟩ := sz4; refine vco_bstore (.inr rfl) rfl rfl rfl hti htz rfl rfl rfl ?_; refine vco_k [2, 3] ?_; refine vc_sr ?_; refine vr 1 ?_; refine vco_call rfl rfl (store_ok (f := !f1) ⟨_, _, rfl, hun1, hud1⟩ hd1 (by omega) (by omega)) ?_; rintro w2 G2 ⟨hlg2, hq2⟩; rw [← frac_neg] at hq2; obtain ⟨u2, x2, rfl, hu2, hx2⟩ := id hq2; obtain ⟨Ahu2, chu2, rfl, hchu2, hrhu2⟩ := id hu2; obtain ⟨Ahx2, chx2, rfl, hchx2, hrhx2⟩ := id hx2; obtain ⟨ti, hti, htz⟩ := sz31; refine vco_bstore (.inl ⟨rfl, rfl⟩) rfl rfl rfl hti htz rfl rfl rfl ?_; refine vco_k [2] ?_; obtain ⟨ri0, rhi0, rhz0⟩ := sz31; refine vc_ret ⟨.inr rfl, _, .agg rfl Tryz.underlying31 rhi0 rhz0 (.nil), ?_⟩; exact ⟨hle1.trans hlg2, hq2⟩
theorem Add_ok {H : Heap} {v v2 : Value} {q q2 : Rat} {N : Nat} (hv : RawV H v q N) (hv2 : RawV H v2 q2 N) (hN : (N : Int) ≤ 1099511627776) :
  Fn Tryz.prog 115 #[v, v2] H (RetQ H (q + q2)) := by
 obtain ⟨bf, bu, bw, bl1, bl2, rfl, _⟩ := id hv
 obtain ⟨cf, cu, cw, cl1, cl2, rfl, _⟩ := id hv2; refine fn_intro (args := [_, _]) Tryz.func115 rfl rfl Tryz.ntmps115 rfl rfl fun w0 => ?_; refine vc_keep [0, 1] rfl ?_; refine vc_sr ?_; refine vco_box rfl rfl ?_; refine vco_box rfl rfl ?_; refine vco_alloc el31 rfl ?_; refine vco_k [2, 3, 4] ?_; refine vc_sd .drawB [0, 2, 1, 3, 4, 5, 6] follows (by kernel_rfl) ?_; refine vr 2 ?_; refine vco_callM rfl rfl (load_ok hv (by omega)) (fun _ _ h => h.le) ?_; rintro v1 H1 ⟨hle1, f1, n1, d1, hfr1, hd1, rfl, hl1, hm1⟩; obtain ⟨un1, ud1, rfl, hun1, hud1⟩ := id hfr1; obtain ⟨Ahun1, chun1, rfl, hchun1, hrhun1⟩ := id hun1; obtain ⟨Ahud1, chud1, rfl, hchud1, hrhud1⟩ := id hud1; refine vco_callM rfl rfl (load_ok (hv2.le hle1) (by omega)) (fun _ _ h => h.le) ?_; rintro v2 H2 ⟨hle2, f2, n2, d2, hfr2, hd2, rfl, hl2, hm2⟩; obtain ⟨un2, ud2, rfl, hun2, hud2⟩ := id hfr2; obtain ⟨Ahun2, chun2, rfl, hchun2, hrhun2⟩ := id hun2; obtain ⟨Ahud2, chud2, rfl, hchud2, hrhud2⟩ := id hud2; refine vco_callM rfl rfl (plus_ok (K := N + 1) (hfr1.le hle2) hfr2 hd1 hd2 hl1 hm1 hl2 hm2 (by omega)) (fun _ _ h => h.le) ?_; rintro v3 H3 ⟨hle3, f3, n3, d3, hfr3, hd3, he3, hl3, hm3⟩; obtain ⟨un3, ud3, rfl, hun3, hud3⟩ := id hfr3; refine vco_callM rfl rfl (store_ok hfr3 hd3 (by omega) (by omega)) (fun _ _ h => h.le) ?_; rintro w4 G4 ⟨hlg4, hq4⟩; rw [he3] at hq4; obtain ⟨u4, x4, rfl, hu4, hx4⟩ := id hq4; obtain ⟨Ahu4, chu4, rfl, hchu4, hrhu4⟩ := id hu4; obtain ⟨Ahx4, chx4, rfl, hchx4, hrhx4⟩ := id hx4; obtain ⟨ti, hti, htz⟩ := sz31; refine vco_bstore (.inl ⟨rfl, rfl⟩) rfl rfl rfl hti htz rfl rfl rfl ?_
 refine vco_k [4] ?_; obtain ⟨ri0, rhi0, rhz0⟩ := sz31; refine vc_ret ⟨.inr rfl, _, .agg rfl Tryz.underlying31 rhi0 rhz0 (.nil), ?_⟩; exact ⟨((hle1.trans hle2).trans hle3).trans hlg4, hq4⟩
theorem Mul_ok {H : Heap} {v v2 : Value} {q q2 : Rat} {N : Nat} (hv : RawV H v q N) (hv2 : RawV H v2 q2 N) (hN : (N : Int) ≤ 1099511627776) :
  Fn Tryz.prog 158 #[v, v2] H (RetQ H (q * q2)) := by
 obtain ⟨bf, bu, bw, bl1, bl2, rfl, _⟩ := id hv
 obtain ⟨cf, cu, cw, cl1, cl2, rfl, _⟩ := id hv2; refine fn_intro (args := [_, _]) Tryz.func158 rfl rfl Tryz.ntmps158 rfl rfl fun w0 => ?_; refine vc_keep [0, 1] rfl ?_; refine vc_sr ?_; refine vco_box rfl rfl ?_; refine vco_box rfl rfl ?_; refine vco_alloc el31 rfl ?_; refine vco_k [2, 3, 4] ?_; refine vc_sd .drawB [0, 2, 1, 3, 4, 5, 6, 7] follows (by kernel_rfl) ?_; refine vr 2 ?_; refine vco_callM rfl rfl (load_ok hv (by omega)) (fun _ _ h => h.le) ?_; rintro v1 H1 ⟨hle1, f1, n1, d1, hfr1, hd1, rfl, hl1, hm1⟩; obtain ⟨un1, ud1, rfl, hun1, hud1⟩ := id hfr1; obtain ⟨Ahun1, chun1, rfl, hchun1, hrhun1⟩ := id hun1; obtain ⟨Ahud1, chud1, rfl, hchud1, hrhud1⟩ := id hud1; refine vco_callM rfl rfl (load_ok (hv2.le hle1) (by omega)) (fun _ _ h => h.le) ?_; rintro v2 H2 ⟨hle2, f2, n2, d2, hfr2, hd2, rfl, hl2, hm2⟩; obtain ⟨un2, ud2, rfl, hun2, hud2⟩ := id hfr2; obtain ⟨Ahun2, chun2, rfl, hchun2, hrhun2⟩ := id hun2; obtain ⟨Ahud2, chud2, rfl, hchud2, hrhud2⟩ := id hud2; have hz1 := len_mul n1 n2; have hz2 := len_mul d1 d2; refine vco_alloc el179 rfl ?_; refine vco_alloc el179 rfl ?_; obtain ⟨ti, hti, htz⟩ := sz179; refine vco_bstore (.inl ⟨rfl, rfl⟩) rfl rfl rfl hti htz rfl rfl rfl ?_; obtain ⟨ti, hti, htz⟩ := sz179; refine vco_bstore (.inl ⟨rfl, rfl⟩) rfl rfl rfl hti htz rfl rfl rfl ?_; refine vco_k [4, 5, 6] ?_; refine vc_sd .drawB [0, 1, 2, 3, 4, 5, 6, 7, 8, 10, 11, 12, 13, 9, 14, 15, 16, 17] follows (by kernel_rfl) ?_; refine vr 4 ?_; refine vco_neb Tryz.underlying4 rfl rfl ?_
 refine vr 8 ?_; refine vco_callM rfl rfl (nmul_ok (hun1.le hle2) hun2 (by omega) (by omega)) (fun _ _ h => h.le) ?_; intro v3 H3 hp3; refine vco_callM rfl rfl (nmul_ok (hud1.le (hle2.trans hp3.le)) (hud2.le hp3.le) (by omega) (by omega)) (fun _ _ h => h.le) ?_; intro v4 H4 hp4; have hn3 := hp3.nat.le hp4.le; have hn4 := hp4.nat; obtain ⟨Ahn3, chn3, rfl, hchn3, hrhn3⟩ := id hn3; obtain ⟨Ahn4, chn4, rfl, hchn4, hrhn4⟩ := id hn4; refine vco_st tbOk rfl el179 rfl rfl ?_; refine vco_callM rfl rfl (store_ok (f := f1 != f2) (n := n1 * n2) (d := d1 * d2) ⟨_, _, rfl, hn3, hn4⟩ (Nat.mul_pos hd1 hd2) (by omega) (by omega)) (fun _ _ h => h.le) ?_; rintro w4 G4 ⟨hlg4, hq4⟩; rw [← frac_mul] at hq4; obtain ⟨u4, x4, rfl, hu4, hx4⟩ := id hq4; obtain ⟨Ahu4, chu4, rfl, hchu4, hrhu4⟩ := id hu4; obtain ⟨Ahx4, chx4, rfl, hchx4, hrhx4⟩ := id hx4; obtain ⟨ti, hti, htz⟩ := sz31; refine vco_bstore (.inl ⟨rfl, rfl⟩) rfl rfl rfl hti htz rfl rfl rfl ?_; refine vco_k [4] ?_; obtain ⟨ri0, rhi0, rhz0⟩ := sz31; refine vc_ret ⟨.inr rfl, _, .agg rfl Tryz.underlying31 rhi0 rhz0 (.nil), ?_⟩; exact ⟨(((hle1.trans hle2).trans hp3.le).trans hp4.le).trans hlg4, hq4⟩
theorem Div_ok {H : Heap} {v v2 : Value} {q q2 : Rat} {N : Nat} (hv : RawV H v q N) (hv2 : RawV H v2 q2 N) (hN : (N : Int) ≤ 1099511627776) :
  Fn Tryz.prog 186 #[v, v2] H (fun v H' => Heap.le H H' ∧ ∃ r, v = .tuple #[r, .bool (decide (q2 ≠ 0))] ∧ CanV H' r (q / q2)) := by
 obtain ⟨bf, bu, bw, bl1, bl2, rfl, _⟩ := id hv
 obtain ⟨cf, cu, cw, cl1, cl2, rfl, _⟩ := id hv2; refine fn_intro (args := [_, _]) Tryz.func186 rfl rfl Tryz.ntmps186 rfl rfl fun w0 => ?_; refine vc_keep [0, 1] rfl ?_; refine vc_sr ?_; refine vco_box rfl rfl ?_; refine vco_box rfl rfl ?_; refine vco_alloc el31 rfl ?_; refine vr 1 ?_; refine vco_k [2, 3, 4] ?_; refine vc_sd .drawB [0, 2, 1, 3, 4, 5, 6, 7] follows (by kernel_rfl) ?_; refine vr 2 ?_; refine vco_callM rfl rfl (load_ok hv (by omega)) (fun _ _ h => h.le) ?_; rintro v1 H1 ⟨hle1, f1, n1, d1, hfr1, hd1, rfl, hl1, hm1⟩; obtain ⟨un1, ud1, rfl, hun1, hud1⟩ := id hfr1; obtain ⟨Ahun1, chun1, rfl, hchun1, hrhun1⟩ := id hun1; obtain ⟨Ahud1, chud1, rfl, hchud1, hrhud1⟩ := id hud1; refine vco_callM rfl rfl (load_ok (hv2.le hle1) (by omega)) (fun _ _ h => h.le) ?_; rintro v2 H2 ⟨hle2, f2, n2, d2, hfr2, hd2, rfl, hl2, hm2⟩; obtain ⟨un2, ud2, rfl, hun2, hud2⟩ := id hfr2; obtain ⟨Ahun2, chun2, rfl, hchun2, hrhun2⟩ := id hun2; obtain ⟨Ahud2, chud2, rfl, hchud2, hrhud2⟩ := id hud2; have hz1 := len_mul n1 d2; have hz2 := len_mul d1 n2; refine vco_alloc el179 rfl ?_; refine vco_alloc el179 rfl ?_; obtain ⟨ti, hti, htz⟩ := sz179; refine vco_bstore (.inl ⟨rfl, rfl⟩) rfl rfl rfl hti htz rfl rfl rfl ?_; obtain ⟨ti, hti, htz⟩ := sz179; refine vco_bstore (.inl ⟨rfl, rfl⟩) rfl rfl rfl hti htz rfl rfl rfl ?_; refine vco_k [4, 6, 7] ?_; refine vc_seq ?_; refine vc_sr ?_; refine vr 4 ?_; refine vco_k [4, 6, 7, 15] ?_; refine vc_cond rfl (fun hb => ?_) (fun hb => ?_)
 ·
  have hb : n2 = 0 := limbs_len_zero.1 (by simpa using hb); subst hb; refine vc_sr ?_; refine vco_call rfl rfl (FromInt_ok (n := 0) (by decide) (by decide)) ?_; rintro w4 G4 ⟨hlg4, hq4⟩; obtain ⟨u4, x4, rfl, hu4, hx4⟩ := id hq4; obtain ⟨Ahu4, chu4, rfl, hchu4, hrhu4⟩ := id hu4; obtain ⟨Ahx4, chx4, rfl, hchx4, hrhx4⟩ := id hx4; obtain ⟨ti, hti, htz⟩ := sz31; refine vco_bstore (.inl ⟨rfl, rfl⟩) rfl rfl rfl hti htz rfl rfl rfl ?_; refine vr 1 ?_; refine vco_k [4, 5] ?_; obtain ⟨ri0, rhi0, rhz0⟩ := sz31; refine vc_ret ⟨.inr rfl, _, .agg rfl Tryz.underlying31 rhi0 rhz0 (.tmp rfl (.nil)), ?_⟩; refine ⟨(hle1.trans hle2).trans hlg4, _, ?_, by rw [frac_num0, Rat.div_def, Rat.inv_zero, Rat.mul_zero]; exact hq4⟩; rw [frac_num0]; rfl
 ·
  have hn0 : 0 < n2 := Nat.pos_of_ne_zero fun e => by rw [limbs_len_zero.2 e] at hb; simp at hb
  refine vc_skip ?_; refine vc_keep [4, 6, 7] rfl ?_; refine vc_sd .drawB [0, 1, 2, 3, 4, 5, 6, 7, 8, 10, 11, 12, 13, 9, 14, 15, 16, 17, 18] follows (by kernel_rfl) ?_; refine vr 4 ?_; refine vco_neb Tryz.underlying4 rfl rfl ?_; refine vr 8 ?_; refine vco_callM rfl rfl (nmul_ok (hun1.le hle2) hud2 (by omega) (by omega)) (fun _ _ h => h.le) ?_; intro v3 H3 hp3; refine vco_callM rfl rfl (nmul_ok (hud1.le (hle2.trans hp3.le)) (hun2.le hp3.le) (by omega) (by omega)) (fun _ _ h => h.le) ?_; intro v4 H4 hp4; have hn3 := hp3.nat.le hp4.le; have hn4 := hp4.nat; obtain ⟨Ahn3, chn3, rfl, hchn3, hrhn3⟩ := id hn3; obtain ⟨Ahn4, chn4, rfl, hchn4, hrhn4⟩ := id hn4; refine vco_st tbOk rfl el179 rfl rfl ?_; refine vco_callM rfl rfl (store_ok (f := f1 != f2) (n := n1 * d2) (d := d1 * n2) ⟨_, _, rfl, hn3, hn4⟩ (Nat.mul_pos hd1 hn0) (by omega) (by omega)) (fun _ _ h => h.le) ?_; rintro w4 G4 ⟨hlg4, hq4⟩; rw [← frac_div hn0] at hq4; obtain ⟨u4, x4, rfl, hu4, hx4⟩ := id hq4; obtain ⟨Ahu4, chu4, rfl, hchu4, hrhu4⟩ := id hu4; obtain ⟨Ahx4, chx4, rfl, hchx4, hrhx4⟩ := id hx4; obtain ⟨ti, hti, htz⟩ := sz31; refine vco_bstore (.inl ⟨rfl, rfl⟩) rfl rfl rfl hti htz rfl rfl rfl ?_; refine vr 1 ?_; refine vco_k [4, 5] ?_; obtain ⟨ri0, rhi0, rhz0⟩ := sz31; refine vc_ret ⟨.inr rfl, _, .agg rfl Tryz.underlying31 rhi0 rhz0 (.tmp rfl (.nil)), ?_⟩; refine ⟨(((hle1.trans hle2).trans hp3.le).trans hp4.le).trans hlg4, _, ?_, hq4⟩
  have hne : frac f2 n2 d2 ≠ 0 := fun e => by rw [frac_eq_zero hd2] at e; omega
  rw [show decide (frac f2 n2 d2 ≠ 0) = true from decide_eq_true hne]; rfl
end Go.Eng
/- The engine, part 12: the frame rule; stores through pointers; calls of closures. -/
namespace Go.Eng
open Go
/-- The heap without some blocks. -/
def rem (H : Heap) (gs : List Nat) : Heap := fun g => if g ∈ gs then none else H g
theorem rem_in {H : Heap} {gs : List Nat} {g : Nat} (h : g ∈ gs) : rem H gs g = none := by simp [rem, h]
theorem rem_out {H : Heap} {gs : List Nat} {g : Nat} (h : ¬ g ∈ gs) : rem H gs g = H g := by simp [rem, h]
theorem rem_nil (H : Heap) : rem H [] = H := by funext g; simp [rem]
theorem rem_le (H : Heap) (gs : List Nat) : Heap.le (rem H gs) H := fun g e h => by
  by_cases hg : g ∈ gs
  · rw [rem_in hg] at h; cases h
  · rw [rem_out hg] at h; exact ⟨e, h, .refl e⟩
theorem rem_mono {H H' : Heap} (gs : List Nat) (h : Heap.le H H') : Heap.le (rem H gs) (rem H' gs) := fun g e he => by
  by_cases hg : g ∈ gs
  · rw [rem_in hg] at he; cases he
  · rw [rem_out hg] at he ⊢; exact h g e he
theorem rem_ins_in {H : Heap} {gs : List Nat} {g : Nat} (e : Ent) (h : g ∈ gs) : rem (ins H g e) gs = rem H gs := by
  funext k
  by_cases hk : k ∈ gs
  · rw [rem_in hk, rem_in hk]
  · rw [rem_out hk, rem_out hk, ins_other _ _ (fun (e' : k = g) => hk (by rw [e']; exact h))]
theorem rem_ins_out {H : Heap} {gs : List Nat} {g : Nat} (e : Ent) (h : ¬ g ∈ gs) : rem (ins H g e) gs = ins (rem H gs) g e := by
  funext k
  by_cases hk : k ∈ gs
  · rw [rem_in hk, ins_other _ _ (fun (e' : k = g) => h (by rw [← e']; exact hk)), rem_in hk]
  · rw [rem_out hk]
    unfold ins
    rw [rem_out hk]
/-- A new block that is set apart. -/
theorem rem_ins_new {H : Heap} {gs : List Nat} {g : Nat} (e : Ent) (h : H g = none) : rem (ins H g e) (g :: gs) = rem H gs := by
  funext k
  by_cases hk : k = g
  · subst hk
    rw [rem_in (List.mem_cons_self ..)]
    by_cases hg : k ∈ gs
    · rw [rem_in hg]
    · rw [rem_out hg, h]
  · by_cases hg : k ∈ gs
    · rw [rem_in hg, rem_in (List.mem_cons_of_mem _ hg)]
    · rw [rem_out hg, rem_out (by simp [hk, hg]), ins_other _ _ hk]
theorem rem_cons_le (H : Heap) (g : Nat) (gs : List Nat) : Heap.le (rem H (g :: gs)) (rem H gs) := fun k e h => by
  by_cases hk : k ∈ g :: gs
  · rw [rem_in hk] at h; cases h
  · rw [rem_out hk] at h
    exact ⟨e, by rw [rem_out (fun h' => hk (List.mem_cons_of_mem _ h'))]; exact h, .refl e⟩
theorem Den.rem {H : Heap} {w : World} (h : Den H w) (gs : List Nat) : Den (rem H gs) w := h.le (rem_le H gs)
/-- What a call leaves that only needs the heap without the blocks gs: they are as they were. -/
structure Framed (gs : List Nat) (Post : Value → Heap → Prop) (H : Heap) (v : Value) (H' : Heap) : Prop where
  post : Post v (rem H' gs)
  same : ∀ g, g ∈ gs → H' g = H g
/-- THE FRAME RULE. -/
theorem Fn.frame {P : Program} {f : FuncId} {args : Array Value} {H : Heap} {Post : Value → Heap → Prop} {gs : List Nat} (hgs : ∀ g, g ∈ gs → H g ≠ none) (h : Fn P f args (rem H gs) Post) : Fn P f args H (Framed gs Post H) := by
  refine ⟨h.ent, fun w hd => (h.run w (hd.rem gs)).mono fun e w' ⟨v, he, K, hp, hd', hf⟩ => ⟨v, he, fun g => if g ∈ gs then H g else K g, ?_, ?_, ?_⟩⟩
  · have hk : ∀ g, g ∈ gs → K g = none := fun g hg => by
      cases hh : H g with
      | none => exact absurd hh (hgs g hg)
      | some e => exact (hf.keep g (hd.lt hh) (rem_in hg)).2
    have e1 : Eng.rem (fun g => if g ∈ gs then H g else K g) gs = K := by
      funext g
      by_cases hg : g ∈ gs
      · rw [rem_in hg, hk g hg]
      · rw [rem_out hg]; simp [hg]
    exact ⟨by rw [e1]; exact hp, fun g hg => by simp [hg]⟩
  · intro g e hg
    by_cases hm : g ∈ gs
    · simp only [hm, if_true] at hg
      obtain ⟨o, h1, h2⟩ := hd g e hg
      exact ⟨o, by rw [(hf.keep g (hd.lt hg) (rem_in hm)).1]; exact h1, h2⟩
    · simp only [hm, if_false] at hg
      exact hd' g e hg
  · refine ⟨hf.os, hf.tape, hf.output, hf.size, fun g hg h0 => ?_, hf.form⟩
    have hm : ¬ g ∈ gs := fun hm => hgs g hm h0
    have h1 := hf.keep g hg (by rw [rem_out hm]; exact h0)
    exact ⟨h1.1, by simp only [hm, if_false]; exact h1.2⟩
/-- .. for a function that leaves what is there. -/
theorem Framed.le {gs : List Nat} {Post : Value → Heap → Prop} {H H' : Heap} {v : Value} (h : Framed gs Post H v H') (hl : ∀ v K, Post v K → Heap.le (rem H gs) K) : Heap.le H H' := fun g e hg => by
  by_cases hm : g ∈ gs
  · exact ⟨e, by rw [h.same g hm]; exact hg, .refl e⟩
  · obtain ⟨e', h1, h2⟩ := hl v _ h.post g e (by rw [rem_out hm]; exact hg)
    rw [rem_out hm] at h1
    exact ⟨e', h1, h2⟩
/-- What is appended leaves what is set apart. -/
theorem App.rem {H H' : Heap} {v v' : Value} {e sz n : Nat} {xs : List Value} {gs : List Nat} (h : App H v e sz n xs v' H') (hg : ∀ g, g ∈ gs → H g ≠ none) (hv : ∀ g, g ∈ gs → v.ownBlock ≠ some g) :
    App (Eng.rem H gs) v e sz n xs v' (Eng.rem H' gs) ∧ ∀ g, g ∈ gs → H' g = H g := by
  have hs : ∀ g, g ∈ gs → H' g = H g := fun g hm => by
    cases hh : H g with
    | none => exact absurd hh (hg g hm)
    | some ent => exact h.same g ent hh (hv g hm)
  have hv' : ∀ g, v'.ownBlock = some g → ¬ g ∈ gs := fun g h1 hm => by
    rcases h.at_ with h2 | ⟨g', h2, h3⟩
    · exact hv g hm (h2 ▸ h1)
    · rw [h2] at h1
      cases h1
      exact hg _ hm h3
  refine ⟨⟨h.own.same fun g h1 => rem_out (hv' g h1), rem_mono gs h.le, fun k ent hk hne => ?_, ?_⟩, hs⟩
  · by_cases hm : k ∈ gs
    · rw [rem_in hm] at hk; cases hk
    · rw [rem_out hm] at hk ⊢; exact h.same k ent hk hne
  · rcases h.at_ with h2 | ⟨g', h2, h3⟩
    · exact .inl h2
    · refine .inr ⟨g', h2, ?_⟩
      rw [rem_out (hv' g' h2)]; exact h3
section
variable {P : Program} {n : Nat} {tb : Tb} {all : Array Oper} {s : St} {H : Heap} {md : Mode} {K : St → Heap → Prop} {r : List Oper} {dst : Option Nat} {ty : TypeId} {pos : String} {after : Array Edge} {gd : Option (Nat × Bool)}
/-- A call of any function where no operation that reads memory may be moved behind it. -/
theorem vco_callX {f : Operand} {fid : FuncId} {args : List Value} {xs : List Operand} {ts : Array TypeId} {Post : Value → Heap → Prop} (hf : ev s f = some (.func (.func fid) #[] #[])) (hx : evL s xs = some args)
    (h : Fn P fid args.toArray H Post) (hk : ∀ v H', Post v H' → VCO P n all .drawC r (putO s dst (.val v)) H' K) (hg : gdB all s gd = some true := by rfl) (nb : Mode.drawC.nb s dst = true := by rfl) : VCO P n all .drawC (⟨dst, .call ⟨.value f, xs.toArray, ts⟩, ty, pos, after, gd⟩ :: r) s H K :=
  .eff Post (.inl kd_call) nb (call_ev (cap := []) hf hx hg (by simpa using h)) trivial fun v H' hp _ => hk v H' hp
theorem splice_ext : ∀ (us : List Value) (A B : List Value) (p : Nat), (∀ (i : Nat) (w : Value), A[i]? = some w → B[i]? = some w) → p + us.length ≤ A.length → ∀ (i : Nat) (w : Value), (splice A p us)[i]? = some w → (splice B p us)[i]? = some w := by
  intro us
  induction us with
  | nil => intro A B p h _ i w hw; exact h i w hw
  | cons x us ih =>
    intro A B p h hl i w hw
    simp only [List.length_cons] at hl
    refine ih (A.set p x) (B.set p x) (p + 1) (fun i w hw => ?_) (by simp; omega) i w hw
    by_cases e : i = p
    · subst e
      have hA : i < A.length := by omega
      have hB : i < B.length := (List.getElem?_eq_some_iff.1 (h i _ (List.getElem?_eq_getElem hA))).1
      rw [List.getElem?_set_self hA] at hw
      rw [List.getElem?_set_self hB]; exact hw
    · rw [List.getElem?_set_ne (fun e' => e e'.symm)] at hw ⊢
      exact h i w hw
/-- A store through a pointer into a block of the call's own. -/
theorem vco_hst {t : TypeId} {x y : Operand} {g o sz : Nat} {ent : Ent} {v : Value} {vs : List Value} {ii : TypeInfo} (hmd : md = .plain ∨ md = .drawH) (hx : ev s x = some (.pointer (some ⟨g, o, none⟩))) (hg : H g = some ent) (hown : ent.own = true) (hin : o + sz ≤ ent.xs.length)
    (hii : P.info? t = some ii) (hsz : ii.size = sz) (hy : ev s y = some v) (hv : v.cells = vs.toArray) (hvl : vs.length = sz) (h1 : vs.all oneV = true)
    (hk : VCO P n all md r s (ins H g { ent with xs := splice ent.xs o vs }) K) (hgd : gdB all s gd = some true := by rfl) : VCO P n all md (⟨none, .store t x y, ty, pos, after, gd⟩ :: r) s H K := by
  refine .eff (fun _ H' => H' = ins H g { ent with xs := splice ent.xs o vs }) (.inr (.inl rfl)) (by rcases hmd with rfl | rfl <;> rfl) (fun a w ha hd => ?_) (by rcases hmd with rfl | rfl <;> first | trivial | exact .inl rfl) fun _ H' hH _ => by rw [hH]; exact hk
  refine ⟨wanted_of_runs ha (gdB_true (o := ⟨none, .store t x y, ty, pos, after, gd⟩) hgd), ?_⟩
  obtain ⟨ob, h2, cur, fz, rfl, h3, h4, h5⟩ := hd g ent hg
  have hfz := h5 hown
  subst hfz
  have hcur : cur = cur.toList.toArray := by simp
  have hlen : ent.xs.length ≤ cur.toList.length := by
    rcases Nat.eq_zero_or_pos ent.xs.length with h | h
    · omega
    · have hx := h4 (ent.xs.length - 1) _ (List.getElem?_eq_getElem (by omega))
      have := (Array.getElem?_eq_some_iff.1 hx).1
      simp; omega
  rw [hcur] at h2
  obtain ⟨w', h6, h7, h8, h9, h10, h11, h12⟩ := storeCells_box (P := P) vs cur.toList w o 0 h2 (fun u hu => List.all_eq_true.1 h1 u hu) (by omega)
  have hex : (execOp a.eval ⟨none, .store t x y, ty, pos, after, gd⟩).run P w = .ok .skip w' := by
    simp [execOp, ev_sound ha hx, ev_sound ha hy, Instr.storeAt, Instr.sureAddr, storeVar, sizeOf, typeInfo, hii, hsz, hv, hvl, h6]
  unfold yields
  rw [hex]
  refine ⟨_, rfl, put_block (o := .cells (splice cur.toList (o + 0) vs).toArray ent.elem (0, 0)) hd h7 h8 h9 (by omega) (fun q _ hq => h11 q hq) h12 ⟨_, (0, 0), rfl, ?_, ?_, fun _ => rfl⟩ (.inl ⟨_, hg, hown, hown, rfl, rfl⟩)⟩
  · simp [splice_length, h3]
  · intro q u hq
    have := splice_ext vs ent.xs cur.toList o (fun i w hw => by have := h4 i w hw; simpa using this) (by omega) q u hq
    simpa using this
end
end Go.Eng
/- How lists of structs, and the numbers of package simplex, lie in memory. -/
namespace Go.Eng
open Go.Proofs Num
/-- The cells of element i. -/
def seg (xs : List Value) (i sz : Nat) : List Value := (xs.drop (i * sz)).take sz
theorem seg_get {xs : List Value} {i sz q : Nat} {v : Value} (h : (seg xs i sz)[q]? = some v) : xs[i * sz + q]? = some v := by
  unfold seg at h
  rw [List.getElem?_take] at h
  split at h
  · rwa [List.getElem?_drop] at h
  · cases h
theorem seg_len {xs : List Value} {i sz n : Nat} (h : xs.length = n * sz) (hi : i < n) : (seg xs i sz).length = sz := by
  unfold seg
  rw [List.length_take, List.length_drop, h]
  have : (i + 1) * sz ≤ n * sz := Nat.mul_le_mul_right _ hi
  rw [Nat.add_mul] at this
  omega
theorem seg_ext {xs ys : List Value} {i sz : Nat} (h : ∀ q, q < sz → xs[i * sz + q]? = ys[i * sz + q]?) : seg xs i sz = seg ys i sz := by
  apply List.ext_getElem?
  intro q
  unfold seg
  rw [List.getElem?_take, List.getElem?_take]
  split
  · rename_i hq
    rw [List.getElem?_drop, List.getElem?_drop, h q hq]
  · rfl
theorem seg_one {xs : List Value} {i : Nat} {v : Value} (h : xs[i]? = some v) : seg xs i 1 = [v] := by
  apply List.ext_getElem?
  intro q
  unfold seg
  rw [List.getElem?_take, Nat.mul_one]
  split
  · rename_i hq
    obtain rfl : q = 0 := by omega
    rw [List.getElem?_drop, Nat.add_zero, h]; rfl
  · rename_i hq
    rw [List.getElem?_eq_none (by simp; omega)]
/-- The cells xs hold the elements l, of sz cells each. -/
structure Els {α : Type} (P : List Value → α → Prop) (sz : Nat) (xs : List Value) (l : List α) : Prop where
  len : xs.length = l.length * sz
  at_ : ∀ (i : Nat) (a : α), l[i]? = some a → P (seg xs i sz) a
section
variable {α β : Type} {P : List Value → α → Prop} {sz : Nat} {xs ys : List Value} {l k : List α}
theorem Els.mono {P' : List Value → α → Prop} (h : Els P sz xs l) (hp : ∀ vs a, P vs a → P' vs a) : Els P' sz xs l := ⟨h.len, fun i a ha => hp _ _ (h.at_ i a ha)⟩
theorem Els.get (h : Els P sz xs l) {i : Nat} {a : α} (ha : l[i]? = some a) : ∃ vs, vs.length = sz ∧ P vs a ∧ ∀ (q : Nat) (v : Value), vs[q]? = some v → xs[i * sz + q]? = some v :=
  ⟨seg xs i sz, seg_len h.len (List.getElem?_eq_some_iff.1 ha).1, h.at_ i a ha, fun _ _ hv => seg_get hv⟩
theorem els_nil : Els P sz [] ([] : List α) := ⟨by simp, fun i a h => by simp at h⟩
theorem Els.append (h : Els P sz xs l) (h' : Els P sz ys k) : Els P sz (xs ++ ys) (l ++ k) := by
  refine ⟨by rw [List.length_append, List.length_append, h.len, h'.len, Nat.add_mul], fun i a ha => ?_⟩
  by_cases hi : i < l.length
  · rw [List.getElem?_append_left hi] at ha
    have e : seg (xs ++ ys) i sz = seg xs i sz := seg_ext fun q hq => by
      have : (i + 1) * sz ≤ l.length * sz := Nat.mul_le_mul_right _ hi
      rw [Nat.add_mul] at this
      rw [List.getElem?_append_left (by rw [h.len]; omega)]
    rw [e]; exact h.at_ i a ha
  · rw [List.getElem?_append_right (by omega)] at ha
    have e : seg (xs ++ ys) i sz = seg ys (i - l.length) sz := by
      unfold seg
      have e1 : i * sz = xs.length + (i - l.length) * sz := by
        rw [h.len, ← Nat.add_mul]; congr 1; omega
      rw [e1, List.drop_append, List.drop_eq_nil_of_le (by omega), List.nil_append]
      congr 2; omega
    rw [e]; exact h'.at_ _ a ha
theorem els_one {vs : List Value} {a : α} (h : P vs a) (hl : vs.length = sz) : Els P sz vs [a] := by
  refine ⟨by simp [hl], fun i b hb => ?_⟩
  cases i with
  | zero =>
    simp only [List.getElem?_cons_zero, Option.some.injEq] at hb
    subst hb
    unfold seg
    rw [Nat.zero_mul, List.drop_zero, List.take_of_length_le (by omega)]; exact h
  | succ i => simp at hb
theorem splice_get : ∀ (vs xs : List Value) (off i : Nat), off + vs.length ≤ xs.length → (splice xs off vs)[i]? = if off ≤ i ∧ i < off + vs.length then vs[i - off]? else xs[i]? := by
  intro vs
  induction vs with
  | nil => intro xs off i _; simp only [splice, List.length_nil, Nat.add_zero]; rw [if_neg (by omega)]
  | cons v vs ih =>
    intro xs off i h
    simp only [List.length_cons] at h
    simp only [splice, List.length_cons]
    rw [ih _ _ _ (by simp; omega)]
    by_cases e : i = off
    · subst e
      rw [if_neg (by omega), if_pos (by omega), Nat.sub_self, List.getElem?_set_self (by omega)]; rfl
    · by_cases e2 : off + 1 ≤ i ∧ i < off + 1 + vs.length
      · rw [if_pos e2, if_pos (by omega)]
        have : i - off = (i - (off + 1)) + 1 := by omega
        rw [this]; rfl
      · rw [if_neg e2, if_neg (by omega), List.getElem?_set_ne (by omega)]
theorem Els.set (h : Els P sz xs l) {i : Nat} (hi : i < l.length) {vs : List Value} {a : α} (hp : P vs a) (hv : vs.length = sz) : Els P sz (splice xs (i * sz) vs) (l.set i a) := by
  have hin : (i + 1) * sz ≤ l.length * sz := Nat.mul_le_mul_right _ hi
  rw [Nat.add_mul, Nat.one_mul] at hin
  have hle : i * sz + vs.length ≤ xs.length := by rw [h.len, hv]; exact hin
  refine ⟨by rw [splice_length, List.length_set]; exact h.len, fun j b hb => ?_⟩
  by_cases e : j = i
  · subst e
    rw [List.getElem?_set_self hi] at hb
    cases hb
    have e : seg (splice xs (j * sz) vs) j sz = vs := by
      apply List.ext_getElem?
      intro q
      unfold seg
      rw [List.getElem?_take]
      split
      · rename_i hq
        rw [List.getElem?_drop, splice_get _ _ _ _ hle, if_pos (by omega)]
        congr 1; omega
      · rw [List.getElem?_eq_none (by omega)]
    rw [e]; exact hp
  · rw [List.getElem?_set_ne (fun e' => e e'.symm)] at hb
    have e : seg (splice xs (i * sz) vs) j sz = seg xs j sz := seg_ext fun q hq => by
      rw [splice_get _ _ _ _ hle, if_neg]
      intro ⟨h1, h2⟩
      rw [hv] at h2
      rcases Nat.lt_or_gt_of_ne e with hlt | hgt
      · have : (j + 1) * sz ≤ i * sz := Nat.mul_le_mul_right _ hlt
        rw [Nat.add_mul] at this; omega
      · have : (i + 1) * sz ≤ j * sz := Nat.mul_le_mul_right _ hgt
        rw [Nat.add_mul] at this; omega
    rw [e]; exact h.at_ j b hb
/-- New memory. -/
theorem els_made {zs : List Value} {a : α} (hz : zs.length = sz) (hp : P zs a) (n : Nat) : Els P sz (madeL zs (n * sz)) (List.replicate n a) := by
  refine ⟨by rw [madeL_length, List.length_replicate], fun i b hb => ?_⟩
  rw [List.getElem?_replicate] at hb
  split at hb
  · rename_i hi
    cases hb
    have e : seg (madeL zs (n * sz)) i sz = zs := by
      apply List.ext_getElem?
      intro q
      unfold seg
      rw [List.getElem?_take]
      split
      · rename_i hq
        rw [List.getElem?_drop, List.getElem?_eq_getElem (by omega : q < zs.length)]
        exact madeL_get hz hi (List.getElem?_eq_getElem (by omega))
      · rw [List.getElem?_eq_none (by omega)]
    rw [e]; exact hp
  · cases hb
theorem Els.drop (h : Els P sz xs l) (n : Nat) : Els P sz (xs.drop (n * sz)) (l.drop n) := by
  refine ⟨by rw [List.length_drop, List.length_drop, h.len, Nat.sub_mul], fun i a ha => ?_⟩
  rw [List.getElem?_drop] at ha
  have e : seg (xs.drop (n * sz)) i sz = seg xs (n + i) sz := by
    unfold seg
    rw [List.drop_drop, Nat.add_mul]
  rw [e]; exact h.at_ _ a ha
theorem Els.one (h : Els P 1 xs l) {i : Nat} {a : α} (ha : l[i]? = some a) : ∃ v, xs[i]? = some v ∧ P [v] a := by
  have hlt := (List.getElem?_eq_some_iff.1 ha).1
  have hi : i < xs.length := by rw [h.len]; omega
  refine ⟨xs[i], List.getElem?_eq_getElem hi, ?_⟩
  have := h.at_ i a ha
  rwa [seg_one (List.getElem?_eq_getElem hi)] at this
end
/-- A slice that reads as a list. -/
def SlV {α : Type} (P : Heap → List Value → α → Prop) (sz : Nat) (H : Heap) (v : Value) (l : List α) : Prop := ∃ A c xs, v = .slice A l.length c ∧ l.length ≤ c ∧ Rd H A xs ∧ Els (P H) sz xs l
/-- What is said of an element stays true as memory grows. -/
def Up {α : Type} (P : Heap → List Value → α → Prop) : Prop := ∀ H H' vs a, Heap.le H H' → P H vs a → P H' vs a
section
variable {α : Type} {P : Heap → List Value → α → Prop} {sz : Nat} {H H' : Heap} {v : Value} {l : List α}
theorem SlV.le (h : SlV P sz H v l) (up : Up P) (hl : Heap.le H H') : SlV P sz H' v l := by
  obtain ⟨A, c, xs, h1, h2, h3, h4⟩ := h
  exact ⟨A, c, xs, h1, h2, h3.le hl, h4.mono fun vs a => up H H' vs a hl⟩
/-- A slice of the call's own. -/
def OwnS {α : Type} (P : Heap → List Value → α → Prop) (e sz : Nat) (H : Heap) (v : Value) (l : List α) : Prop := ∃ xs, Own H v e sz l.length xs ∧ Els (P H) sz xs l
theorem OwnS.sl {e : Nat} (h : OwnS P e sz H v l) : SlV P sz H v l := by
  obtain ⟨xs, h1, h2⟩ := h
  obtain ⟨A, c, rfl⟩ := h1.form
  refine ⟨A, c, xs, rfl, ?_, h1.rd, h2⟩
  rcases h1.2 with ⟨k1, k2⟩ | ⟨g, cap, k1, _, k3, _⟩
  · omega
  · cases k1; exact k3
end
/-! ## numbers -/
/-- A number of package simplex: its three cells. -/
def NumV (H : Heap) (vs : List Value) (q : Rat) : Prop :=
  ∃ (n d : Int) (b : Option Addr), vs = [.int .i64 n, .int .i64 d, .pointer b] ∧
    ((b = none ∧ n = q.num ∧ d = q.den ∧ -9223372036854775807 ≤ n ∧ n ≤ 9223372036854775807 ∧ d ≤ 9223372036854775807) ∨
     ∃ ad f u w, b = some ad ∧ CanV H (.agg #[.bool f, u, w]) q ∧ cell H ad = some (.bool f) ∧ cell H (ad.add 1) = some u ∧ cell H (ad.add 2) = some w)
theorem NumV.up : Up NumV := fun H H' vs q hl h => by
  obtain ⟨n, d, b, h1, h2⟩ := h
  refine ⟨n, d, b, h1, ?_⟩
  rcases h2 with h2 | ⟨ad, f, u, w, h2, h3, h4, h5, h6⟩
  · exact .inl h2
  · exact .inr ⟨ad, f, u, w, h2, h3.le hl, cell_le hl h4, cell_le hl h5, cell_le hl h6⟩
theorem NumV.le {H H' : Heap} {vs : List Value} {q : Rat} (h : NumV H vs q) (hl : Heap.le H H') : NumV H' vs q := NumV.up H H' vs q hl h
theorem NumV.len {H : Heap} {vs : List Value} {q : Rat} (h : NumV H vs q) : vs.length = 3 := by
  obtain ⟨n, d, b, rfl, _⟩ := h; rfl
/-- What a function returns that gives a number. -/
def RetM (H : Heap) (q : Rat) (v : Value) (H' : Heap) : Prop := Heap.le H H' ∧ ∃ vs, v = .agg vs.toArray ∧ NumV H' vs q
theorem RetM.le {H : Heap} {q : Rat} {v : Value} {H' : Heap} (h : RetM H q v H') : Heap.le H H' := h.1
/-! ## sizes -/
theorem sgn_num (q : Rat) : sgnQ q = if q.num.natAbs = 0 then 0 else if decide (q.num < 0) then -1 else 1 := by
  have := sgn_frac (f := decide (q.num < 0)) (n := q.num.natAbs) (d := q.den) (Nat.pos_of_ne_zero q.den_nz)
  rwa [frac_self] at this
theorem szQ_le {q : Rat} {k : Nat} : szQ q ≤ k ↔ q.num.natAbs < B ^ k ∧ q.den < B ^ k := by
  unfold szQ
  rw [Nat.max_le, limbs_len_le, limbs_len_le]
theorem szQ_of {q : Rat} {n : Int} {d k : Nat} (hd : 0 < d) (h : q = mkRat n d) (h1 : n.natAbs < B ^ k) (h2 : d < B ^ k) : szQ q ≤ k := by
  obtain ⟨m, hm, h3, h4⟩ := Rat.mkRat_num_den (n := n) (d := d) (by omega) (n' := q.num) (d' := q.den) (z' := q.den_nz) (c := q.reduced) h.symm
  rw [szQ_le]
  refine ⟨?_, ?_⟩
  · rw [h3, Int.natAbs_mul, Int.natAbs_natCast] at h1
    exact Nat.lt_of_le_of_lt (Nat.le_mul_of_pos_right _ (by omega)) h1
  · rw [h4] at h2
    exact Nat.lt_of_le_of_lt (Nat.le_mul_of_pos_right _ (by omega)) h2
theorem szQ_lt (q : Rat) : q.num.natAbs < B ^ szQ q ∧ q.den < B ^ szQ q := szQ_le.1 (Nat.le_refl _)
theorem szQ_neg (q : Rat) : szQ (-q) = szQ q := by unfold szQ; rw [Rat.neg_num, Int.natAbs_neg, Rat.neg_den]
theorem szQ_mul (p q : Rat) : szQ (p * q) ≤ szQ p + szQ q := by
  have h1 := szQ_lt p
  have h2 := szQ_lt q
  refine szQ_of (n := p.num * q.num) (d := p.den * q.den) (Nat.mul_pos (Nat.pos_of_ne_zero p.den_nz) (Nat.pos_of_ne_zero q.den_nz)) ?_ ?_ ?_
  · rw [← Rat.mkRat_mul_mkRat, Rat.mkRat_self, Rat.mkRat_self]
  · rw [Int.natAbs_mul, Nat.pow_add]; exact Nat.mul_lt_mul'' h1.1 h2.1
  · rw [Nat.pow_add]; exact Nat.mul_lt_mul'' h1.2 h2.2
theorem szQ_add (p q : Rat) : szQ (p + q) ≤ szQ p + szQ q + 1 := by
  have h1 := szQ_lt p
  have h2 := szQ_lt q
  have hp := Nat.pos_of_ne_zero p.den_nz
  have hq := Nat.pos_of_ne_zero q.den_nz
  have hB : 2 * (B ^ szQ p * B ^ szQ q) ≤ B ^ (szQ p + szQ q + 1) := by
    rw [Nat.pow_succ, Nat.pow_add, Nat.mul_comm 2]; exact Nat.mul_le_mul_left _ (by decide)
  refine szQ_of (n := p.num * q.den + q.num * p.den) (d := p.den * q.den) (Nat.mul_pos hp hq) ?_ ?_ ?_
  · rw [Rat.add_def']
  · have h3 : (p.num * q.den + q.num * p.den).natAbs ≤ p.num.natAbs * q.den + q.num.natAbs * p.den := by
      have := Int.natAbs_add_le (p.num * q.den) (q.num * p.den)
      rwa [Int.natAbs_mul, Int.natAbs_mul, Int.natAbs_natCast, Int.natAbs_natCast] at this
    have h4 := Nat.mul_lt_mul'' h1.1 h2.2
    have h5 := Nat.mul_lt_mul'' h2.1 h1.2
    rw [Nat.mul_comm (B ^ szQ q)] at h5
    omega
  · have h4 := Nat.mul_lt_mul'' h1.2 h2.2
    omega
theorem szQ_sub (p q : Rat) : szQ (p - q) ≤ szQ p + szQ q + 1 := by
  rw [Rat.sub_eq_add_neg]
  have := szQ_add p (-q)
  rwa [szQ_neg] at this
end Go.Eng
