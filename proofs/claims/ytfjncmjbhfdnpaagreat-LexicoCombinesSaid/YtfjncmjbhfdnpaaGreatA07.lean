/- Part 7 of the proof: Ref1, Ref2, Ref3, Ref4, Ref5, Ref6, Tab9. -/
import Derived.Test.YtfjncmjbhfdnpaaGreatA06
set_option linter.unusedVariables false
/- Walks over package amortcostref1, part 1. -/
namespace Go.Eng
open Go.Proofs Num
theorem cut_ok {H : Heap} {u : Value} {l : List Nat} (hu : LimV H u l) (hlt : Lt l) (hm : (l.length : Int) ≤ 17592186044416) :
  Fn Tryz.prog 151 #[u] H (RetN H (val l)) := by
 obtain ⟨A, c, rfl, hc, hr⟩ := hu; refine fn_intro (args := [_]) Tryz.func151 rfl rfl Tryz.ntmps151 rfl rfl fun w0 => ?_; refine vc_keep [0] rfl ?_; refine vc_sr ?_; refine vr 1 ?_; refine vco_k [0] ?_; refine vc_sr ?_; refine vr 3 ?_; refine vco_k [0, 3] ?_; refine vc_seq ?_; refine vc_block ?_; refine vc_loop1 (fun (k : Nat) => k) (fun (k : Nat) => put (put (emp) 0 (.val (.slice A l.length c))) 3 (.val (.int .i64 (k : Int)))) (fun (k : Nat) H' => H' = H ∧ k ≤ l.length ∧ val (l.take k) = val l) l.length (⟨rfl, Nat.le_refl _, by simp⟩) sub_auto ?_; rintro k H1 ⟨rfl, hk, hv⟩; refine vc_seq ?_
 rcases Nat.eq_zero_or_pos k with hk0 | hk0
 ·
  skip
  refine vc_sr ?_; refine vr 1 ?_; refine vco_cmp false rfl rfl (cgt_f (by omega)) ?_; refine vr 8 ?_; refine vco_k [0, 3, 15] ?_; refine vc_cond_f rfl ?_; refine vc_exit ?_; refine vc_keep [0, 3] rfl ?_; refine vc_sr ?_; refine vr 2 ?_; refine vco_slice tbOk rfl rfl (.inl ⟨rfl, rfl⟩) (.inr ⟨_, _, rfl, rfl⟩) (by omega) (by omega) ?_; rw [slice_same]; refine vco_append Tryz.underlying29 el121 rfl rfl (ownU_nil _) (hr.take k) (by simp [U_length]; omega) (fun u hu => U_one _ u (List.mem_of_mem_take hu)) (by simp; omega) (by simp; omega) ?_; intro v1 H2 ha; rw [← U_take, Nat.sub_zero] at ha; refine vr 1 ?_; refine vco_k [2] ?_; refine vc_ret ⟨.inr rfl, _, .tmp rfl (.nil), ?_⟩; have e := limbs_take hlt hk hv (.inl hk0); have h1 := (App.ownU (a := []) (b := l.take k) ha rfl (by simp; omega)).lim; rw [List.nil_append, ← e] at h1; exact ⟨ha.le, h1⟩
 ·
  obtain ⟨x, hx⟩ : ∃ x, l[k - 1]? = some x := ⟨_, List.getElem?_eq_getElem (by omega)⟩; refine vc_sr ?_; refine vr 1 ?_; refine vco_cmp true rfl rfl (cgt_t (by omega)) ?_; refine vr 3 ?_; refine vco_sub rfl rfl ⟨by omega, by omega⟩ ?_; refine vco_at tbOk rfl rfl rfl rfl rfl (hr) (U_get (by rw [show ((k : Int) - 1).toNat = k - 1 by omega]; exact hx)) (by omega) (by omega) fun _ => ?_; refine vr 2 ?_; refine vco_k [0, 3, 15] ?_; refine vc_cond rfl (fun hb => ?_) (fun hb => ?_)
  ·
   have hb : x = 0 := by simpa using hb
   refine vc_skip ?_; refine vc_keep [0, 3] rfl ?_; refine vc_block ?_; refine vc_region rfl ?_; refine vr 1 ?_; refine vco_sub rfl rfl ⟨by omega, by omega⟩ ?_; refine vr 1 ?_; refine vco_end ?_; exact ⟨k - 1, by omega, sub_auto, rfl, by omega, by have := val_take_succ hx; rw [show k - 1 + 1 = k by omega, hb, Nat.mul_zero, Nat.add_zero] at this; rw [← this]; exact hv⟩
  ·
   have hb : x ≠ 0 := by simpa using hb
   refine vc_exit ?_; refine vc_keep [0, 3] rfl ?_; refine vc_sr ?_; refine vr 2 ?_; refine vco_slice tbOk rfl rfl (.inl ⟨rfl, rfl⟩) (.inr ⟨_, _, rfl, rfl⟩) (by omega) (by omega) ?_; rw [slice_same]; refine vco_append Tryz.underlying29 el121 rfl rfl (ownU_nil _) (hr.take k) (by simp [U_length]; omega) (fun u hu => U_one _ u (List.mem_of_mem_take hu)) (by simp; omega) (by simp; omega) ?_; intro v1 H2 ha; rw [← U_take, Nat.sub_zero] at ha; refine vr 1 ?_; refine vco_k [2] ?_; refine vc_ret ⟨.inr rfl, _, .tmp rfl (.nil), ?_⟩; have e := limbs_take hlt hk hv (.inr ⟨x, hx, hb⟩); have h1 := (App.ownU (a := []) (b := l.take k) ha rfl (by simp; omega)).lim; rw [List.nil_append, ← e] at h1; exact ⟨ha.le, h1⟩
theorem rnat_ok {H : Heap} {u : Value} {l : List Nat} (hu : LimV H u l) (h32 : ∀ x, x ∈ l → x < 4294967296) (hm : (l.length : Int) ≤ 8796093022208) :
  Fn Tryz.prog 148 #[u] H (RetN H (val l)) := by
 obtain ⟨A, c, rfl, hc, hr⟩ := hu; refine fn_intro (args := [_]) Tryz.func148 rfl rfl Tryz.ntmps148 rfl rfl fun w0 => ?_; refine vc_keep [0] rfl ?_; refine vc_sr ?_; refine vr 1 ?_; refine vco_k [0] ?_; refine vc_sr ?_; refine vr 1 ?_; refine vco_k [0, 3] ?_; refine vc_sr ?_; refine vr 1 ?_; refine vco_k [0, 3, 4] ?_; refine vc_seq ?_; refine vc_sr ?_; refine vr 1 ?_; refine vco_k [0, 3, 4, 5] ?_; refine vc_block ?_; refine vc_loop4 (fun (k : Nat) (v : Value) (o : List Nat) (cr : Nat) => l.length - k) (fun (k : Nat) (v : Value) (o : List Nat) (cr : Nat) => put (put (put (put (emp) 0 (.val (.slice A l.length c))) 3 (.val (v))) 4 (.val (.int .u64 (cr : Int)))) 5 (.val (.int .i64 (k : Int)))) (fun (k : Nat) (v : Value) (o : List Nat) (cr : Nat) H' => Heap.le H H' ∧ OwnU H' v o ∧ k ≤ l.length ∧ o.length = k ∧ Lt o ∧ cr ≤ 4 ∧ val o + B ^ k * cr = val (l.take k)) 0 _ [] 0 (⟨.refl _, ownU_nil _, by omega, rfl, Lt.nil, by omega, by simp [val]⟩) sub_auto ?_; rintro k v o cr H1 ⟨hle, hown, hk, hol, hlo, hcr, hv⟩; obtain ⟨Ao, co, rfl⟩ := Own.form hown; refine vc_seq ?_; refine vc_sr ?_; refine vr 4 ?_; refine vco_k [0, 3, 4, 5, 9] ?_; refine vc_cond rfl (fun hb => ?_) (fun hb => ?_)
 ·
  have hb : k < l.length := by simpa using hb
  obtain ⟨p, hp⟩ : ∃ p, l[k]? = some p := ⟨_, List.getElem?_eq_getElem hb⟩; have hp32 := h32 p (List.mem_of_getElem? hp); refine vc_skip ?_; refine vc_keep [0, 3, 4, 5] rfl ?_; refine vc_seq ?_; refine vc_block ?_; refine vc_sr ?_; refine vr 3 ?_; refine vco_at tbOk rfl rfl rfl rfl rfl (hr.le hle) (U_get hp) (by omega) (by omega) fun _ => ?_; refine vco_conv tbOk rfl rfl rfl ⟨by omega, by omega⟩ ?_; refine vco_add rfl rfl ⟨by omega, by omega⟩ ?_; refine vr 1 ?_; refine vco_k [0, 3, 4, 5] ?_; refine vc_sr ?_; refine vr 2 ?_; refine vco_rem rfl rfl (by omega) (by omega) ?_; refine vco_conv tbOk rfl rfl rfl ⟨by omega, by omega⟩ ?_; refine vco_build Tryz.underlying29 el121 rfl rfl rfl rfl rfl rfl rfl ?_; intro gb hgb; refine vco_append Tryz.underlying29 el121 rfl rfl (hown.ins _ hgb) (rd_u1 (y := (cr + p) % 1000000000) rfl) (rfl) (U_one _) (by omega) (by omega) ?_; intro v1 H2 ha; refine vr 1 ?_; refine vco_k [0, 3, 4, 5] ?_; refine vc_region rfl ?_; refine vr 1 ?_; refine vco_quo rfl rfl (by omega) (by omega) ⟨by omega, by omega⟩ ?_; refine vr 1 ?_; refine vco_end ?_; refine vc_keep [0, 3, 4, 5] rfl ?_; refine vc_region rfl ?_; refine vr 1 ?_; refine vco_add rfl rfl ⟨by omega, by omega⟩ ?_; refine vr 1 ?_; refine vco_end ?_; have hst := carry_step (s := cr + p) (u := val (l.take (k + 1))) hol hv rfl (val_take_succ hp); exact ⟨k + 1, v1, o ++ [(cr + p) % B], (cr + p) / B, by omega, sub_auto, (hle.trans (Heap.le_ins _ hgb)).trans ha.le, ha.ownU rfl rfl, by omega, by simp [hol], hlo.snoc (Nat.mod_lt _ B_pos), by rw [B_eq]; omega, hst⟩
 ·
  have hb : l.length ≤ k := by simpa using hb
  obtain rfl : k = l.length := by omega
  rw [List.take_length] at hv; refine vc_exit ?_; refine vc_keep [3, 4] rfl ?_; refine vc_cut2 (fun (v : Value) (o : List Nat) => put (emp) 3 (.val (v))) (fun (v : Value) (o : List Nat) H' => Heap.le H H' ∧ OwnU H' v o ∧ o.length ≤ l.length + 1 ∧ Lt o ∧ val o = val l) ?_ ?_
  ·
   refine vc_sr ?_; refine vr 2 ?_; refine vco_k [3, 4, 28] ?_; refine vc_cond rfl (fun hb => ?_) (fun hb => ?_)
   ·
    have hb : 0 < cr := by simpa using hb
    refine vc_region rfl ?_; refine vr 2 ?_; refine vco_conv tbOk rfl rfl rfl ⟨by omega, by omega⟩ ?_; refine vco_build Tryz.underlying29 el121 rfl rfl rfl rfl rfl rfl rfl ?_; intro gb hgb; refine vco_append Tryz.underlying29 el121 rfl rfl (hown.ins _ hgb) (rd_u1 (y := cr) rfl) (rfl) (U_one _) (by omega) (by omega) ?_; intro v1 H2 ha; refine vr 1 ?_; refine vco_end ?_; exact ⟨v1, o ++ [cr], (by repeat (first | exact sub_emp _ | refine sub_put rfl ?_ | refine sub_put (slot_int (by omega)) ?_)), (hle.trans (Heap.le_ins _ hgb)).trans ha.le, ha.ownU rfl rfl, by simp; omega, hlo.snoc (by rw [B_eq]; omega), by rw [val_snoc, hol]; exact hv⟩
   ·
    have hb : cr = 0 := by simpa using hb
    refine vc_skip ?_; exact ⟨_, o, (by repeat (first | exact sub_emp _ | refine sub_put rfl ?_ | refine sub_put (slot_int (by omega)) ?_)), hle, hown, by omega, hlo, by rw [hb, Nat.mul_zero] at hv; omega⟩
  ·
   rintro v o H3 ⟨hle, hown, hol, hlo, hv⟩; refine vc_sr ?_; refine vr 1 ?_; refine vco_call rfl rfl (cut_ok hown.lim hlo (by omega)) ?_; intro v1 H4 hp; refine vr 1 ?_; refine vco_k [2] ?_; refine vc_ret ⟨.inr rfl, _, .tmp rfl (.nil), ?_⟩; exact ⟨hle.trans hp.le, by have := hp.nat; rwa [hv] at this⟩
theorem limbs_ok {H : Heap} {x : Nat} (hx : x < 18446744073709551616) :
  Fn Tryz.prog 76 #[.int .u64 (x : Int)] H (RetN H x) := by
 refine fn_intro (args := [_]) Tryz.func76 rfl rfl Tryz.ntmps76 rfl rfl fun w0 => ?_; refine vc_keep [0] rfl ?_; refine vc_sr ?_; refine vr 1 ?_; refine vco_k [0] ?_; refine vc_sr ?_; refine vr 1 ?_; refine vco_k [0, 3] ?_; refine vc_seq ?_; refine vc_block ?_; refine vc_loop3 (fun (y : Nat) (v : Value) (o : List Nat) => y) (fun (y : Nat) (v : Value) (o : List Nat) => put (put (emp) 0 (.val (.int .u64 (y : Int)))) 3 (.val (v))) (fun (y : Nat) (v : Value) (o : List Nat) H' => Heap.le H H' ∧ OwnU H' v o ∧ y ≤ x ∧ o ++ limbs y = limbs x) x (.slice none 0 0) [] (⟨.refl _, ownU_nil _, Nat.le_refl _, rfl⟩) sub_auto ?_; rintro y v o H1 ⟨hle, hown, hyx, ho⟩; obtain ⟨A, c, rfl⟩ := Own.form hown
 have hol : o.length ≤ (limbs x).length := by rw [← ho]; simp
 have hxl : (limbs x).length ≤ 3 := limbs_len_le.2 (by rw [B_eq]; omega); refine vc_seq ?_; refine vc_sr ?_; refine vr 2 ?_; refine vco_k [0, 3, 5] ?_; refine vc_cond rfl (fun hb => ?_) (fun hb => ?_)
 ·
  have hb : 0 < y := by simpa using hb
  refine vc_skip ?_; refine vc_keep [0, 3] rfl ?_; refine vc_block ?_; refine vc_sr ?_; refine vr 2 ?_; refine vco_rem rfl rfl (by omega) (by omega) ?_; refine vco_conv tbOk rfl rfl rfl ⟨by omega, by omega⟩ ?_; refine vco_build Tryz.underlying29 el121 rfl rfl rfl rfl rfl rfl rfl ?_; intro gb hgb; refine vco_append Tryz.underlying29 el121 rfl rfl (hown.ins _ hgb) (rd_u1 (emod_cast y 1000000000)) (rfl) (U_one _) (by omega) (by omega) ?_; intro v1 H2 ha; refine vr 1 ?_; refine vco_k [0, 3] ?_; refine vc_region rfl ?_; refine vr 1 ?_; refine vco_quo rfl rfl (by omega) (by omega) ⟨by omega, by omega⟩ ?_; refine vr 1 ?_; refine vco_end ?_
  have hy0 : 0 < y := by omega
  rw [limbs_pos hy0] at ho; exact ⟨y / B, v1, o ++ [y % B], Nat.div_lt_self hy0 (by decide), sub_auto, (hle.trans (Heap.le_ins _ hgb)).trans ha.le, ha.ownU rfl rfl, Nat.le_trans (Nat.div_le_self _ _) hyx, by simpa using ho⟩
 ·
  have hb : y = 0 := by simpa using hb
  refine vc_exit ?_; refine vc_keep [3] rfl ?_; refine vc_sr ?_; refine vr 2 ?_; refine vco_k [2] ?_; refine vc_ret ⟨.inr rfl, _, .tmp rfl (.nil), ?_⟩; subst hb; exact ⟨hle, natV_of (hown.lim) (by rw [show o = limbs x by simpa [limbs_zero] using ho]; exact nrm_limbs x) (by rw [show o = limbs x by simpa [limbs_zero] using ho]; exact val_limbs x)⟩
theorem natCmp_ok {H : Heap} {u v : Value} {x y : Nat} (hx : NatV H u x) (hy : NatV H v y) (hm : ((limbs x).length : Int) ≤ 35184372088832) :
  Fn Tryz.prog 80 #[u, v] H (RetE H (.int .i64 (cmpN x y))) := by
 obtain ⟨A, c, rfl, hc, hr⟩ := hx
 obtain ⟨A', c', rfl, hc', hr'⟩ := hy; refine fn_intro (args := [_, _]) Tryz.func80 rfl rfl Tryz.ntmps80 rfl rfl fun w0 => ?_; refine vc_keep [0, 1] rfl ?_; refine vc_sr ?_; refine vr 1 ?_; refine vco_k [0, 1] ?_; refine vc_seq ?_; refine vc_sr ?_; refine vr 5 ?_; refine vco_k [0, 1, 10] ?_; refine vc_cond rfl (fun hb => ?_) (fun hb => ?_)
 ·
  have hl : (limbs x).length ≠ (limbs y).length := by simp at hb; omega
  refine vc_seq ?_; refine vc_sr ?_; refine vr 5 ?_; refine vco_k [15] ?_; refine vc_cond rfl (fun hb => ?_) (fun hb => ?_)
  ·
   simp at hb
   refine vc_sr ?_; refine vr 1 ?_; refine vco_k [4] ?_; refine vc_ret ⟨.inr rfl, _, .tmp rfl (.nil), ?_⟩; exact ⟨rfl, by rw [cmpN_lt (lt_of_len hb)]; rfl⟩
  ·
   simp at hb
   refine vc_skip ?_; refine vc_keep [] rfl ?_; refine vc_sr ?_; refine vr 1 ?_; refine vco_k [4] ?_; refine vc_ret ⟨.inr rfl, _, .tmp rfl (.nil), ?_⟩; exact ⟨rfl, by rw [cmpN_gt (lt_of_len (by omega))]; rfl⟩
 ·
  have hl : (limbs x).length = (limbs y).length := by simp at hb; omega
  refine vc_skip ?_; refine vc_keep [0, 1] rfl ?_; refine vc_seq ?_; refine vc_sr ?_; refine vr 2 ?_; refine vco_sub rfl rfl ⟨by omega, by omega⟩ ?_; refine vr 1 ?_; refine vco_k [0, 1, 5] ?_; refine vc_block ?_; refine vc_loop1 (fun (k : Nat) => k) (fun (k : Nat) => put (put (put (emp) 0 (.val (.slice A (limbs x).length c))) 1 (.val (.slice A' (limbs y).length c'))) 5 (.val (.int .i64 ((k : Int) - 1)))) (fun (k : Nat) H' => H' = H ∧ k ≤ (limbs x).length ∧ (limbs x).drop k = (limbs y).drop k) (limbs x).length (⟨rfl, Nat.le_refl _, by rw [List.drop_of_length_le (Nat.le_refl _), List.drop_of_length_le (by omega)]⟩) sub_auto ?_; rintro k H1 ⟨rfl, hk, hd⟩; refine vc_seq ?_; refine vc_sr ?_; refine vr 2 ?_; refine vco_k [0, 1, 5, 20] ?_; refine vc_cond rfl (fun hb => ?_) (fun hb => ?_)
  ·
   simp at hb
   obtain ⟨p, hp⟩ : ∃ p, (limbs x)[k - 1]? = some p := ⟨_, List.getElem?_eq_getElem (by omega)⟩; obtain ⟨q, hq⟩ : ∃ q, (limbs y)[k - 1]? = some q := ⟨_, List.getElem?_eq_getElem (by omega)⟩
   have hj : ((k : Int) - 1).toNat = k - 1 := by omega
   have hd1 : (limbs x).drop (k - 1 + 1) = (limbs y).drop (k - 1 + 1) := by rw [show k - 1 + 1 = k by omega]; exact hd
   refine vc_skip ?_; refine vc_keep [0, 1, 5] rfl ?_; refine vc_seq ?_; refine vc_block ?_; refine vc_seq ?_; refine vc_sd .drawB [0, 1, 2, 3, 4, 5, 6, 7, 8] follows (by kernel_rfl) ?_; refine vr 2 ?_; refine vco_at tbOk rfl rfl rfl rfl rfl (hr) (by rw [hj]; exact U_get hp) (by omega) (by omega) fun _ => ?_; refine vr 2 ?_; refine vco_at tbOk rfl rfl rfl rfl rfl (hr') (by rw [hj]; exact U_get hq) (by omega) (by omega) fun _ => ?_; refine vr 1 ?_; refine vco_k [0, 1, 5, 31] ?_; refine vc_cond rfl (fun hb => ?_) (fun hb => ?_)
   ·
    have hpq : p < q := by simpa using hb
    refine vc_sr ?_; refine vr 1 ?_; refine vco_k [4] ?_; refine vc_ret ⟨.inr rfl, _, .tmp rfl (.nil), ?_⟩; exact ⟨rfl, by rw [cmpN_lt (by have := val_lt_of (nrm_limbs x).lt hp hq hd1 hpq; rwa [val_limbs, val_limbs] at this)]; rfl⟩
   ·
    have hpq : ¬ p < q := by simpa using hb
    refine vc_skip ?_; refine vc_keep [0, 1, 5] rfl ?_; refine vc_sd .drawB [0, 1, 2, 3, 4, 5, 6, 7, 8] follows (by kernel_rfl) ?_; refine vr 2 ?_; refine vco_at tbOk rfl rfl rfl rfl rfl (hr) (by rw [hj]; exact U_get hp) (by omega) (by omega) fun _ => ?_; refine vr 2 ?_; refine vco_at tbOk rfl rfl rfl rfl rfl (hr') (by rw [hj]; exact U_get hq) (by omega) (by omega) fun _ => ?_; refine vr 1 ?_; refine vco_k [0, 1, 5, 40] ?_; refine vc_cond rfl (fun hb => ?_) (fun hb => ?_)
    ·
     have hqp : q < p := by simpa using hb
     refine vc_sr ?_; refine vr 1 ?_; refine vco_k [4] ?_; refine vc_ret ⟨.inr rfl, _, .tmp rfl (.nil), ?_⟩; exact ⟨rfl, by rw [cmpN_gt (by have := val_lt_of (nrm_limbs y).lt hq hp hd1.symm hqp; rwa [val_limbs, val_limbs] at this)]; rfl⟩
    ·
     have hqp : ¬ q < p := by simpa using hb
     refine vc_skip ?_; refine vc_keep [0, 1, 5] rfl ?_; refine vc_region rfl ?_; refine vr 1 ?_; refine vco_sub rfl rfl ⟨by omega, by omega⟩ ?_; refine vr 1 ?_; refine vco_end ?_
     obtain rfl : p = q := by omega
     exact ⟨k - 1, by omega, sub_auto, rfl, by omega, drop_step (by omega) hp hq hd⟩
  ·
   simp at hb
   refine vc_exit ?_; refine vc_keep [] rfl ?_; refine vc_sr ?_; refine vr 1 ?_; refine vco_k [4] ?_; refine vc_ret ⟨.inr rfl, _, .tmp rfl (.nil), ?_⟩
   obtain rfl : k = 0 := by omega
   have : x = y := by rw [← val_limbs x, ← val_limbs y]; simpa using congrArg val hd
   exact ⟨rfl, by rw [this, cmpN_eq]; rfl⟩
end Go.Eng
/- Walks over package amortcostref1, part 2. -/
namespace Go.Eng
open Go.Proofs Num
theorem getD_lt {l : List Nat} (h : Lt l) (k : Nat) : (l[k]?).getD 0 < 1000000000 := by
  cases hq : l[k]? with
  | none => simp
  | some z => have := h.get hq; rw [B_eq] at this; simpa using this
theorem getD_some {l : List Nat} {k e : Nat} (he : e = (l[k]?).getD 0) (h : k < l.length) : l[k]? = some e := by
  rw [List.getElem?_eq_getElem h] at he ⊢; simp at he; rw [he]
theorem getD_none {l : List Nat} {k e : Nat} (he : e = (l[k]?).getD 0) (h : l.length ≤ k) : e = 0 := by
  rw [he, List.getElem?_eq_none h]; rfl
theorem natAdd_ok {H : Heap} {u v : Value} {x y : Nat} (hx : NatV H u x) (hy : NatV H v y) (hm : ((limbs x).length : Int) ≤ 8796093022208) (hm' : ((limbs y).length : Int) ≤ 8796093022208) :
  Fn Tryz.prog 79 #[u, v] H (RetN H (x + y)) := by
 obtain ⟨A, c, rfl, hc, hr⟩ := hx
 obtain ⟨A', c', rfl, hc', hr'⟩ := hy
 have hla := (nrm_limbs x).lt
 have hlb := (nrm_limbs y).lt
 obtain ⟨M, hM⟩ : ∃ M, M = max (limbs x).length (limbs y).length := ⟨_, rfl⟩; refine fn_intro (args := [_, _]) Tryz.func79 rfl rfl Tryz.ntmps79 rfl rfl fun w0 => ?_; refine vc_keep [0, 1] rfl ?_; refine vc_sr ?_; refine vr 1 ?_; refine vco_k [0, 1] ?_; refine vc_sr ?_; refine vr 1 ?_; refine vco_k [0, 1, 5] ?_; refine vc_sr ?_; refine vr 1 ?_; refine vco_k [0, 1, 5, 6] ?_; refine vc_seq ?_; refine vc_sr ?_; refine vr 1 ?_; refine vco_k [0, 1, 5, 6, 7] ?_; refine vc_block ?_; refine vc_loop4 (fun (k : Nat) (v : Value) (o : List Nat) (cr : Nat) => M + 1 - k) (fun (k : Nat) (v : Value) (o : List Nat) (cr : Nat) => put (put (put (put (put (emp) 0 (.val (.slice A (limbs x).length c))) 1 (.val (.slice A' (limbs y).length c'))) 5 (.val (v))) 6 (.val (.int .u32 (cr : Int)))) 7 (.val (.int .i64 (k : Int)))) (fun (k : Nat) (v : Value) (o : List Nat) (cr : Nat) H' => Heap.le H H' ∧ OwnU H' v o ∧ k ≤ M + 1 ∧ o.length = k ∧ Lt o ∧ cr ≤ 1 ∧ val o + B ^ k * cr = val ((limbs x).take k) + val ((limbs y).take k) ∧ (k = M + 1 → cr = 0 ∧ B ^ M ≤ val o)) 0 _ [] 0 (⟨.refl _, ownU_nil _, by omega, rfl, Lt.nil, by omega, by simp [val], by omega⟩) sub_auto ?_; rintro k v o cr H1 ⟨hle, hown, hk, hol, hlo, hcr, hv, hM1⟩; obtain ⟨Ao, co, rfl⟩ := Own.form hown; refine vc_cut0 (put (put (put (put (put (emp) 0 (.val (.slice A (limbs x).length c))) 1 (.val (.slice A' (limbs y).length c'))) 5 (.val (.slice Ao o.length co))) 6 (.val (.int .u32 (cr : Int)))) 7 (.val (.int .i64 (k : Int)))) (fun  H' => H' = H1 ∧ k ≤ M ∧ (k < (limbs x).length ∨ k < (limbs y).length ∨ 0 < cr)) ?_ ?_
 ·
  by_cases hka : k < (limbs x).length
  ·
   skip
   refine vc_sr ?_; refine vr 3 ?_; refine vco_cmp true rfl rfl (clt_t (by omega)) ?_; refine vr 10 ?_; refine vco_k [0, 1, 5, 6, 7, 22] ?_; refine vc_cond_t rfl ?_; refine vc_skip ?_; exact ⟨sub_auto, rfl, by omega, .inl hka⟩
  ·
   by_cases hkb : k < (limbs y).length
   skip
   ·
    skip
    refine vc_sr ?_; refine vr 3 ?_; refine vco_cmp false rfl rfl (clt_f (by omega)) ?_; refine vr 4 ?_; refine vco_cmp true rfl rfl (clt_t (by omega)) ?_; refine vr 5 ?_; refine vco_k [0, 1, 5, 6, 7, 22] ?_; refine vc_cond_t rfl ?_; refine vc_skip ?_; exact ⟨sub_auto, rfl, by omega, .inr (.inl hkb)⟩
   ·
    skip
    refine vc_sr ?_; refine vr 3 ?_; refine vco_cmp false rfl rfl (clt_f (by omega)) ?_; refine vr 4 ?_; refine vco_cmp false rfl rfl (clt_f (by omega)) ?_; refine vr 5 ?_; refine vco_k [0, 1, 5, 6, 7, 22] ?_; refine vc_cond rfl (fun hb => ?_) (fun hb => ?_)
    ·
     have hb : 0 < cr := by simpa using hb
     refine vc_skip ?_; exact ⟨sub_auto, rfl, by omega, .inr (.inr hb)⟩
    ·
     have hb : cr = 0 := by simpa using hb
     refine vc_exit ?_; refine vc_keep [5] rfl ?_; refine vc_sr ?_; refine vr 2 ?_; refine vco_k [4] ?_; refine vc_ret ⟨.inr rfl, _, .tmp rfl (.nil), ?_⟩; subst hb; rw [Nat.mul_zero, Nat.add_zero, List.take_of_length_le (by omega), List.take_of_length_le (by omega), val_limbs, val_limbs] at hv; refine ⟨hle, natV_of hown.lim (last_pos hlo hol ?_) hv⟩
     rcases Nat.eq_zero_or_pos k with e | e
     · exact .inl e
     ·
      right
      by_cases h1 : k = M + 1
      ·
       have := (hM1 h1).2; rw [show k - 1 = M by omega]; exact this
      ·
       have h2 : k = M := by omega
       rw [hv]
       rcases Nat.le_total (limbs x).length (limbs y).length with h3 | h3
       ·
        have h4 : k = (limbs y).length := by omega
        have h5 := limbs_low (y := y) (Nat.pos_of_ne_zero fun e0 => by rw [limbs_len_zero.2 e0] at h4; omega); rw [h4]; omega
       ·
        have h4 : k = (limbs x).length := by omega
        have h5 := limbs_low (y := x) (Nat.pos_of_ne_zero fun e0 => by rw [limbs_len_zero.2 e0] at h4; omega); rw [h4]; omega
 ·
  rintro H2 ⟨rfl, hkM, hcond⟩; obtain ⟨da, hda⟩ : ∃ e, e = ((limbs x)[k]?).getD 0 := ⟨_, rfl⟩; obtain ⟨db, hdb⟩ : ∃ e, e = ((limbs y)[k]?).getD 0 := ⟨_, rfl⟩
  have hdaB : da < 1000000000 := by rw [hda]; exact getD_lt hla k
  have hdbB : db < 1000000000 := by rw [hdb]; exact getD_lt hlb k
  refine vc_seq ?_; refine vc_block ?_; refine vc_sr ?_; refine vr 2 ?_; refine vco_k [0, 1, 5, 7, 8] ?_; refine vc_cut1 (fun (sv : Int) => put (put (put (put (put (emp) 0 (.val (.slice A (limbs x).length c))) 1 (.val (.slice A' (limbs y).length c'))) 5 (.val (.slice Ao o.length co))) 7 (.val (.int .i64 (k : Int)))) 8 (.val (.int .u32 sv))) (fun (sv : Int) H' => H' = H2 ∧ sv = (cr : Int) + da) ?_ ?_
  ·
   refine vc_sr ?_; refine vr 4 ?_; refine vco_k [0, 1, 5, 7, 8, 29] ?_; refine vc_cond rfl (fun hb => ?_) (fun hb => ?_)
   ·
    have hb : k < (limbs x).length := by simpa using hb
    have hz := getD_some hda hb; refine vc_region rfl ?_; refine vr 3 ?_; refine vco_at tbOk rfl rfl rfl rfl rfl (hr.le hle) (U_get hz) (by omega) (by omega) fun _ => ?_; refine vco_add rfl rfl ⟨by omega, by omega⟩ ?_; refine vr 1 ?_; refine vco_end ?_; exact ⟨(cr : Int) + da, sub_auto, rfl, rfl⟩
   ·
    have hb : (limbs x).length ≤ k := by simpa using hb
    have hz := getD_none hda hb; refine vc_skip ?_; exact ⟨(cr : Int), sub_auto, rfl, by omega⟩
  ·
   rintro sv H3 ⟨rfl, hsv⟩; refine vc_cut1 (fun (sv2 : Int) => put (put (put (put (put (emp) 0 (.val (.slice A (limbs x).length c))) 1 (.val (.slice A' (limbs y).length c'))) 5 (.val (.slice Ao o.length co))) 7 (.val (.int .i64 (k : Int)))) 8 (.val (.int .u32 sv2))) (fun (sv2 : Int) H' => H' = H3 ∧ sv2 = (cr : Int) + da + db) ?_ ?_
   ·
    refine vc_sr ?_; refine vr 4 ?_; refine vco_k [0, 1, 5, 7, 8, 39] ?_; refine vc_cond rfl (fun hb => ?_) (fun hb => ?_)
    ·
     have hb : k < (limbs y).length := by simpa using hb
     have hz := getD_some hdb hb; refine vc_region rfl ?_; refine vr 3 ?_; refine vco_at tbOk rfl rfl rfl rfl rfl (hr'.le hle) (U_get hz) (by omega) (by omega) fun _ => ?_; refine vco_add rfl rfl ⟨by omega, by omega⟩ ?_; refine vr 1 ?_; refine vco_end ?_; exact ⟨sv + db, sub_auto, rfl, by omega⟩
    ·
     have hb : (limbs y).length ≤ k := by simpa using hb
     have hz := getD_none hdb hb; refine vc_skip ?_; exact ⟨sv, sub_auto, rfl, by omega⟩
   ·
    rintro sv2 H4 ⟨rfl, hsv2⟩; refine vc_sr ?_; refine vr 1 ?_; refine vco_quo rfl rfl (by omega) (by omega) ⟨by omega, by omega⟩ ?_; refine vr 1 ?_; refine vco_k [0, 1, 5, 6, 7, 8] ?_; refine vc_region rfl ?_; refine vr 2 ?_; refine vco_rem rfl rfl (by omega) (by omega) ?_; refine vco_build Tryz.underlying29 el121 rfl rfl rfl rfl rfl rfl rfl ?_; intro gb hgb; refine vco_append Tryz.underlying29 el121 rfl rfl (hown.ins _ hgb) (rd_u1 (y := (cr + da + db) % 1000000000) (by omega)) (rfl) (U_one _) (by omega) (by omega) ?_; intro v1 H5 ha; refine vr 1 ?_; refine vco_end ?_; refine vc_keep [0, 1, 5, 6, 7] rfl ?_; refine vc_region rfl ?_; refine vr 1 ?_; refine vco_add rfl rfl ⟨by omega, by omega⟩ ?_; refine vr 1 ?_; refine vco_end ?_; have hst := carry_step (s := cr + da + db) (a := cr) (b := da + db) (u := val ((limbs x).take (k + 1)) + val ((limbs y).take (k + 1))) hol hv (by omega) (by rw [val_take_getD, val_take_getD, ← hda, ← hdb, Nat.mul_add]; omega); refine ⟨k + 1, v1, o ++ [(cr + da + db) % B], (cr + da + db) / 1000000000, by omega, sub_auto, (hle.trans (Heap.le_ins _ hgb)).trans ha.le, ha.ownU rfl rfl, by omega, by simp [hol], hlo.snoc (Nat.mod_lt _ B_pos), by omega, hst, fun e => ?_⟩; have h1 := getD_none hda (by omega); have h2 := getD_none hdb (by omega)
    obtain rfl : k = M := by omega
    have h3 : cr = 1 := by omega
    subst h1 h2 h3; rw [val_snoc, hol, show (1 + 0 + 0) % B = 1 from rfl, show (1 + 0 + 0) / 1000000000 = 0 from rfl]; exact ⟨rfl, by omega⟩
end Go.Eng
/- Walks over package amortcostref1, part 3. -/
namespace Go.Eng
open Go.Proofs Num
theorem natSub_ok {H : Heap} {u v : Value} {x y : Nat} (hx : NatV H u x) (hy : NatV H v y) (hyx : y ≤ x) (hm : ((limbs x).length : Int) ≤ 8796093022208) :
  Fn Tryz.prog 81 #[u, v] H (RetN H (x - y)) := by
 obtain ⟨A, c, rfl, hc, hr⟩ := hx
 obtain ⟨A', c', rfl, hc', hr'⟩ := hy
 have hla := (nrm_limbs x).lt
 have hlb := (nrm_limbs y).lt
 have hl := limbs_len_mono hyx; refine fn_intro (args := [_, _]) Tryz.func81 rfl rfl Tryz.ntmps81 rfl rfl fun w0 => ?_; refine vc_keep [0, 1] rfl ?_; refine vc_sr ?_; refine vr 1 ?_; refine vco_k [0, 1] ?_; refine vc_sr ?_; refine vr 2 ?_; refine vco_make Tryz.underlying29 el121 rfl rfl rfl (by omega) (by omega) (by omega) (by omega) ?_; intro g hg; rw [show (((limbs x).length : Int)).toNat = (limbs x).length from by omega, made_uent']; have hrg := fun e => hr.le (Heap.le_ins (g := g) e hg); have hrg' := fun e => hr'.le (Heap.le_ins (g := g) e hg); refine vr 1 ?_; refine vco_k [0, 1, 5] ?_; refine vc_sr ?_; refine vr 1 ?_; refine vco_k [0, 1, 5, 6] ?_; refine vc_seq ?_; refine vc_sr ?_; refine vr 1 ?_; refine vco_k [0, 1, 5, 6, 7] ?_; refine vc_block ?_; refine vc_loop3 (fun (k : Nat) (o : List Nat) (br : Nat) => (limbs x).length - k) (fun (k : Nat) (o : List Nat) (br : Nat) => put (put (put (put (put (emp) 0 (.val (.slice A (limbs x).length c))) 1 (.val (.slice A' (limbs y).length c'))) 5 (.val (.slice (some ⟨g, 0, none⟩) (limbs x).length (limbs x).length))) 6 (.val (.int .u32 (br : Int)))) 7 (.val (.int .i64 (k : Int)))) (fun (k : Nat) (o : List Nat) (br : Nat) H' => H' = ins H g (uent o (limbs x).length) ∧ k ≤ (limbs x).length ∧ o.length = (limbs x).length ∧ Lt o ∧ br ≤ 1 ∧ val ((limbs x).take k) + B ^ k * br = val (o.take k) + val ((limbs y).take k)) 0 _ 0 (⟨rfl, by omega, by simp, Lt.replicate _, by omega, by simp [val]⟩) sub_auto ?_
 rintro k o br H1 ⟨rfl, hk, hol, hlo, hbr, hv⟩; refine vc_seq ?_; refine vc_sr ?_; refine vr 4 ?_; refine vco_k [0, 1, 5, 6, 7, 15] ?_; refine vc_cond rfl (fun hb => ?_) (fun hb => ?_)
 ·
  have hb : k < (limbs x).length := by simpa using hb
  obtain ⟨d, hd⟩ : ∃ d, (limbs x)[k]? = some d := ⟨_, List.getElem?_eq_getElem hb⟩; have hdB := hla.get hd; rw [B_eq] at hdB; obtain ⟨e, he⟩ : ∃ e, e = ((limbs y)[k]?).getD 0 := ⟨_, rfl⟩
  have heB : e < 1000000000 := by rw [he]; exact getD_lt hlb k
  refine vc_skip ?_; refine vc_keep [0, 1, 5, 6, 7] rfl ?_; refine vc_seq ?_; refine vc_block ?_; refine vc_sr ?_; refine vr 2 ?_; refine vco_k [0, 1, 5, 7, 8] ?_; refine vc_cut1 (fun (sv : Int) => put (put (put (put (put (emp) 0 (.val (.slice A (limbs x).length c))) 1 (.val (.slice A' (limbs y).length c'))) 5 (.val (.slice (some ⟨g, 0, none⟩) (limbs x).length (limbs x).length))) 7 (.val (.int .i64 (k : Int)))) 8 (.val (.int .u32 sv))) (fun (sv : Int) H' => H' = ins H g (uent o (limbs x).length) ∧ sv = (br : Int) + e) ?_ ?_
  ·
   refine vc_sr ?_; refine vr 4 ?_; refine vco_k [0, 1, 5, 7, 8, 22] ?_; refine vc_cond rfl (fun hb => ?_) (fun hb => ?_)
   ·
    have hb : k < (limbs y).length := by simpa using hb
    have hz := getD_some he hb; refine vc_region rfl ?_; refine vr 3 ?_; refine vco_at tbOk rfl rfl rfl rfl rfl (hrg' _) (U_get hz) (by omega) (by omega) fun _ => ?_; refine vco_add rfl rfl ⟨by omega, by omega⟩ ?_; refine vr 1 ?_; refine vco_end ?_; exact ⟨(br : Int) + e, sub_auto, rfl, rfl⟩
   ·
    have hb : (limbs y).length ≤ k := by simpa using hb
    have hz := getD_none he hb; refine vc_skip ?_; exact ⟨(br : Int), sub_auto, rfl, by omega⟩
  ·
   rintro sv H4 ⟨rfl, hsv⟩; refine vc_sr ?_; refine vr 2 ?_; refine vco_at tbOk rfl rfl rfl rfl rfl (hrg _) (U_get hd) (by omega) (by omega) fun _ => ?_; refine vr 2 ?_; refine vco_k [0, 1, 5, 7, 8, 34] ?_; refine vc_cond rfl (fun hb => ?_) (fun hb => ?_)
   ·
    have hb : sv ≤ d := by simpa using hb
    refine vc_region rfl ?_; refine vr 4 ?_; refine vco_at tbOk rfl rfl rfl rfl rfl (hrg _) (U_get hd) (by omega) (by omega) fun _ => ?_; refine vr 1 ?_; refine vco_sub rfl rfl ⟨by omega, by omega⟩ ?_; obtain ⟨ti, hti, htz⟩ := sz121; refine vco_set (.inl rfl) tbOk rfl rfl rfl (by omega) (by omega) (ins_same _ _ _) rfl (by rw [uent_len]; omega) hti htz (fun _ => rfl) rfl rfl rfl fun _ => ?_; refine vr 1 ?_; refine vco_end ?_; refine vc_keep [0, 1, 5, 6, 7] rfl ?_; refine vc_region rfl ?_; refine vr 1 ?_; refine vco_add rfl rfl ⟨by omega, by omega⟩ ?_; refine vr 1 ?_; refine vco_end ?_; have hst := sub_step (o := o.take k) (s := d - br - e) (br' := 0) (d := d) (e := e) (by simp; omega) hv (by omega) (val_take_succ hd) (show val ((limbs y).take (k + 1)) = val ((limbs y).take k) + B ^ k * e by rw [val_take_getD, ← he]); rw [← take_set_succ (by omega)] at hst; exact ⟨k + 1, o.set k (d - br - e), 0, by omega, sub_auto, by rw [set_uent (y := d - br - e) (by omega)]; rfl, by omega, by simp [hol], hlo.set (by rw [B_eq]; omega), by omega, hst⟩
   ·
    have hb : (d : Int) < sv := by simpa using hb
    refine vc_region rfl ?_; refine vr 4 ?_; refine vco_at tbOk rfl rfl rfl rfl rfl (hrg _) (U_get hd) (by omega) (by omega) fun _ => ?_; refine vco_add rfl rfl ⟨by omega, by omega⟩ ?_; refine vr 1 ?_; refine vco_sub rfl rfl ⟨by omega, by omega⟩ ?_; obtain ⟨ti, hti, htz⟩ := sz121; refine vco_set (.inl rfl) tbOk rfl rfl rfl (by omega) (by omega) (ins_same _ _ _) rfl (by rw [uent_len]; omega) hti htz (fun _ => rfl) rfl rfl rfl fun _ => ?_; refine vr 1 ?_; refine vco_end ?_; refine vc_keep [0, 1, 5, 6, 7] rfl ?_; refine vc_region rfl ?_; refine vr 1 ?_; refine vco_add rfl rfl ⟨by omega, by omega⟩ ?_; refine vr 1 ?_; refine vco_end ?_; have hst := sub_step (o := o.take k) (s := d + 1000000000 - br - e) (br' := 1) (d := d) (e := e) (by simp; omega) hv (by rw [B_eq]; omega) (val_take_succ hd) (show val ((limbs y).take (k + 1)) = val ((limbs y).take k) + B ^ k * e by rw [val_take_getD, ← he]); rw [← take_set_succ (by omega)] at hst; exact ⟨k + 1, o.set k (d + 1000000000 - br - e), 1, by omega, sub_auto, by rw [set_uent (y := d + 1000000000 - br - e) (by omega)]; rfl, by omega, by simp [hol], hlo.set (by rw [B_eq]; omega), by omega, hst⟩
 ·
  have hb : (limbs x).length ≤ k := by simpa using hb
  obtain rfl : k = (limbs x).length := by omega
  rw [List.take_length, List.take_of_length_le hl, val_limbs, val_limbs, List.take_of_length_le (by omega)] at hv; have hvo := val_lt hlo; rw [hol] at hvo
  have hbr0 : br = 0 := by
   rcases Nat.eq_zero_or_pos br with h|h
   · exact h
   ·
    obtain rfl : br = 1 := by omega
    omega
  refine vc_exit ?_; refine vc_keep [5] rfl ?_; refine vc_sr ?_; refine vr 1 ?_; refine vco_call rfl rfl (cut_ok (lim_uent _ _ o _ _ hol.symm (Nat.le_refl _)) hlo (by omega)) ?_; intro v1 H4 hp; refine vr 1 ?_; refine vco_k [4] ?_; refine vc_ret ⟨.inr rfl, _, .tmp rfl (.nil), ?_⟩; exact ⟨(Heap.le_ins _ hg).trans hp.le, by have := hp.nat; rwa [show val o = x - y by rw [hbr0] at hv; omega] at this⟩
theorem natMul_ok {H : Heap} {u v : Value} {x y : Nat} (hx : NatV H u x) (hy : NatV H v y) (hm : ((limbs x).length : Int) < 8796093022208) (hm' : ((limbs y).length : Int) < 8796093022208) :
  Fn Tryz.prog 78 #[u, v] H (RetN H (x * y)) := by
 obtain ⟨A, c, rfl, hc, hr⟩ := hx
 obtain ⟨A', c', rfl, hc', hr'⟩ := hy
 have hla := (nrm_limbs x).lt
 have hlb := (nrm_limbs y).lt; refine fn_intro (args := [_, _]) Tryz.func78 rfl rfl Tryz.ntmps78 rfl rfl fun w0 => ?_; refine vc_keep [0, 1] rfl ?_; refine vc_sr ?_; refine vr 1 ?_; refine vco_k [0, 1] ?_; refine vc_sr ?_; refine vr 4 ?_; refine vco_add rfl rfl ⟨by omega, by omega⟩ ?_; refine vco_add rfl rfl ⟨by omega, by omega⟩ ?_; refine vco_make Tryz.underlying29 el121 rfl rfl rfl (by omega) (by omega) (by omega) (by omega) ?_; intro g hg; rw [show (((limbs x).length : Int) + ((limbs y).length : Int) + 1).toNat = ((limbs x).length + (limbs y).length + 1) from by omega, made_uent']; have hrg := fun e => hr.le (Heap.le_ins (g := g) e hg); have hrg' := fun e => hr'.le (Heap.le_ins (g := g) e hg); refine vr 1 ?_; refine vco_k [0, 1, 5] ?_; refine vc_seq ?_; refine vc_sr ?_; refine vr 1 ?_; refine vco_k [0, 1, 5, 6] ?_; refine vc_block ?_; refine vc_loop2 (fun (i : Nat) (o : List Nat) => (limbs x).length - i) (fun (i : Nat) (o : List Nat) => put (put (put (put (emp) 0 (.val (.slice A (limbs x).length c))) 1 (.val (.slice A' (limbs y).length c'))) 5 (.val (.slice (some ⟨g, 0, none⟩) ((limbs x).length + (limbs y).length + 1) ((limbs x).length + (limbs y).length + 1)))) 6 (.val (.int .i64 (i : Int)))) (fun (i : Nat) (o : List Nat) H' => H' = ins H g (uent o ((limbs x).length + (limbs y).length + 1)) ∧ i ≤ (limbs x).length ∧ o.length = ((limbs x).length + (limbs y).length + 1) ∧ Lt o ∧ Zer o (i + (limbs y).length) ∧ val o = val ((limbs x).take i) * y) 0 _ (⟨rfl, by omega, by simp, Lt.replicate _, zer_replicate _ _, by simp [val, val_replicate]⟩) sub_auto ?_
 rintro i o H1 ⟨rfl, hi, hol, hlo, hz, hv⟩; refine vc_seq ?_; refine vc_sr ?_; refine vr 4 ?_; refine vco_k [0, 1, 5, 6, 19] ?_; refine vc_cond rfl (fun hb => ?_) (fun hb => ?_)
 ·
  have hb : i < (limbs x).length := by simpa using hb
  obtain ⟨d, hd⟩ : ∃ d, (limbs x)[i]? = some d := ⟨_, List.getElem?_eq_getElem hb⟩; have hdB := hla.get hd; rw [B_eq] at hdB; refine vc_skip ?_; refine vc_keep [0, 1, 5, 6] rfl ?_; refine vc_seq ?_; refine vc_block ?_; refine vc_sr ?_; refine vr 1 ?_; refine vco_k [0, 1, 5, 6, 7] ?_; refine vc_sr ?_; refine vr 1 ?_; refine vco_k [0, 1, 5, 6, 7, 8] ?_; refine vc_block ?_; refine vc_loop3 (fun (j : Nat) (o2 : List Nat) (cr : Nat) => (limbs y).length + 1 - j) (fun (j : Nat) (o2 : List Nat) (cr : Nat) => put (put (put (put (put (put (emp) 0 (.val (.slice A (limbs x).length c))) 1 (.val (.slice A' (limbs y).length c'))) 5 (.val (.slice (some ⟨g, 0, none⟩) ((limbs x).length + (limbs y).length + 1) ((limbs x).length + (limbs y).length + 1)))) 6 (.val (.int .i64 (i : Int)))) 7 (.val (.int .u64 (cr : Int)))) 8 (.val (.int .i64 (j : Int)))) (fun (j : Nat) (o2 : List Nat) (cr : Nat) H' => H' = ins H g (uent o2 ((limbs x).length + (limbs y).length + 1)) ∧ j ≤ (limbs y).length + 1 ∧ o2.length = ((limbs x).length + (limbs y).length + 1) ∧ Lt o2 ∧ cr < 1000000000 ∧ Zer o2 (i + (limbs y).length + 1) ∧ (j ≤ (limbs y).length → Zer o2 (i + (limbs y).length)) ∧ (j = (limbs y).length + 1 → cr = 0) ∧ val o2 + B ^ (i + j) * cr = val ((limbs x).take i) * y + B ^ i * d * val ((limbs y).take j)) 0 o 0 (⟨rfl, by omega, hol, hlo, by omega, fun t z ht => hz t z (by omega), fun _ => hz, by omega, by simp [val, hv]⟩) sub_auto ?_; rintro j o2 cr H1 ⟨rfl, hj, hol2, hlo2, hcr, hz2, hz3, hj1, hv2⟩
  refine vc_cut0 (put (put (put (put (put (put (emp) 0 (.val (.slice A (limbs x).length c))) 1 (.val (.slice A' (limbs y).length c'))) 5 (.val (.slice (some ⟨g, 0, none⟩) ((limbs x).length + (limbs y).length + 1) ((limbs x).length + (limbs y).length + 1)))) 6 (.val (.int .i64 (i : Int)))) 7 (.val (.int .u64 (cr : Int)))) 8 (.val (.int .i64 (j : Int)))) (fun  H' => H' = ins H g (uent o2 ((limbs x).length + (limbs y).length + 1)) ∧ j ≤ (limbs y).length) ?_ ?_
  ·
   by_cases hjb : j < (limbs y).length
   ·
    skip
    refine vc_sr ?_; refine vr 3 ?_; refine vco_cmp true rfl rfl (clt_t (by omega)) ?_; refine vr 4 ?_; refine vco_k [0, 1, 5, 6, 7, 8, 29] ?_; refine vc_cond_t rfl ?_; refine vc_skip ?_; exact ⟨sub_auto, rfl, by omega⟩
   ·
    skip
    refine vc_sr ?_; refine vr 3 ?_; refine vco_cmp false rfl rfl (clt_f (by omega)) ?_; refine vr 4 ?_; refine vco_k [0, 1, 5, 6, 7, 8, 29] ?_; refine vc_cond rfl (fun hb => ?_) (fun hb => ?_)
    ·
     have hb : 0 < cr := by simpa using hb
     refine vc_skip ?_; exact ⟨sub_auto, rfl, by omega⟩
    ·
     have hb : cr = 0 := by simpa using hb
     subst hb; rw [List.take_of_length_le (l := limbs y) (i := j) (by omega), val_limbs, Nat.mul_zero, Nat.add_zero] at hv2; refine vc_exit ?_; refine vc_keep [0, 1, 5, 6] rfl ?_; refine vc_region rfl ?_; refine vr 1 ?_; refine vco_add rfl rfl ⟨by omega, by omega⟩ ?_; refine vr 1 ?_; refine vco_end ?_; refine ⟨i + 1, o2, by omega, sub_auto, rfl, by omega, hol2, hlo2, by rw [Nat.add_right_comm]; exact hz2, ?_⟩; rw [val_take_succ hd, Nat.add_mul]
     omega
  ·
   rintro H4 ⟨rfl, hjl⟩; obtain ⟨p, hp⟩ : ∃ p, p = ((limbs y)[j]?).getD 0 := ⟨_, rfl⟩
   have hpB : p < 1000000000 := by rw [hp]; exact getD_lt hlb j
   obtain ⟨e, he⟩ : ∃ e, o2[i + j]? = some e := ⟨_, List.getElem?_eq_getElem (by omega)⟩; have heB := hlo2.get he; rw [B_eq] at heB
   have hij : ((i : Int) + (j : Int)).toNat = i + j := by omega
   have hdm : d * p ≤ 999999999 * 999999999 := Nat.mul_le_mul (by omega) (by omega)
   have hdm' : (d : Int) * (p : Int) = ((d * p : Nat) : Int) := by simp
   refine vc_seq ?_; refine vc_block ?_; refine vc_sr ?_; refine vr 4 ?_; refine vco_add rfl rfl ⟨by omega, by omega⟩ ?_; refine vco_at tbOk rfl rfl rfl rfl rfl (rd_uent _ _ _ _) (by rw [hij]; exact U_get he) (by omega) (by omega) fun _ => ?_; refine vco_conv tbOk rfl rfl rfl ⟨by omega, by omega⟩ ?_; refine vco_add rfl rfl ⟨by omega, by omega⟩ ?_; refine vr 1 ?_; refine vco_k [0, 1, 5, 6, 7, 8] ?_; refine vc_cut1 (fun (sv : Int) => put (put (put (put (put (put (emp) 0 (.val (.slice A (limbs x).length c))) 1 (.val (.slice A' (limbs y).length c'))) 5 (.val (.slice (some ⟨g, 0, none⟩) ((limbs x).length + (limbs y).length + 1) ((limbs x).length + (limbs y).length + 1)))) 6 (.val (.int .i64 (i : Int)))) 7 (.val (.int .u64 sv))) 8 (.val (.int .i64 (j : Int)))) (fun (sv : Int) H' => H' = ins H g (uent o2 ((limbs x).length + (limbs y).length + 1)) ∧ sv = ((d * p + e + cr : Nat) : Int)) ?_ ?_
   ·
    refine vc_sr ?_; refine vr 4 ?_; refine vco_k [0, 1, 5, 6, 7, 8, 44] ?_; refine vc_cond rfl (fun hb => ?_) (fun hb => ?_)
    ·
     have hb : j < (limbs y).length := by simpa using hb
     have hp2 := getD_some hp hb; refine vc_draw .drawB [0, 1, 2, 3, 4, 5, 6, 7, 8, 9, 10, 11, 12, 13] follows (by kernel_rfl) ?_; refine vr 3 ?_; refine vco_at tbOk rfl rfl rfl rfl rfl (hrg _) (U_get hd) (by omega) (by omega) fun _ => ?_; refine vco_conv tbOk rfl rfl rfl ⟨by omega, by omega⟩ ?_; refine vr 2 ?_; refine vco_at tbOk rfl rfl rfl rfl rfl (hrg' _) (U_get hp2) (by omega) (by omega) fun _ => ?_; refine vco_conv tbOk rfl rfl rfl ⟨by omega, by omega⟩ ?_; refine vco_mul rfl rfl ⟨by omega, by omega⟩ ?_; refine vco_add rfl rfl ⟨by omega, by omega⟩ ?_; refine vr 1 ?_; refine vco_end ?_; exact ⟨((d * p + e + cr : Nat) : Int), sub_auto, rfl, rfl⟩
    ·
     have hb : (limbs y).length ≤ j := by simpa using hb
     have hp2 := getD_none hp hb
     have hdp : d * p = 0 := by rw [hp2, Nat.mul_zero]
     refine vc_skip ?_; exact ⟨((d * p + e + cr : Nat) : Int), sub_auto, rfl, rfl⟩
   ·
    rintro sv H4 ⟨rfl, hsv⟩; refine vc_sr ?_; refine vr 3 ?_; refine vco_add rfl rfl ⟨by omega, by omega⟩ ?_; refine vr 1 ?_; refine vco_rem rfl rfl (by omega) (by omega) ?_; refine vco_conv tbOk rfl rfl rfl ⟨by omega, by omega⟩ ?_; obtain ⟨ti, hti, htz⟩ := sz121; refine vco_set (.inl rfl) tbOk rfl rfl rfl (by omega) (by omega) (ins_same _ _ _) rfl (by rw [uent_len]; omega) hti htz (fun _ => rfl) rfl rfl rfl fun _ => ?_; refine vco_k [0, 1, 5, 6, 7, 8] ?_; refine vc_region rfl ?_; refine vr 1 ?_; refine vco_quo rfl rfl (by omega) (by omega) ⟨by omega, by omega⟩ ?_; refine vr 1 ?_; refine vco_end ?_; refine vc_keep [0, 1, 5, 6, 7, 8] rfl ?_; refine vc_region rfl ?_; refine vr 1 ?_; refine vco_add rfl rfl ⟨by omega, by omega⟩ ?_; refine vr 1 ?_; refine vco_end ?_; refine ⟨j + 1, o2.set (i + j) ((d * p + e + cr) % B), (d * p + e + cr) / 1000000000, by omega, sub_auto, by rw [set_uent (y := (d * p + e + cr) % B) (by rw [B_eq]; omega), hij], by omega, by simp [hol2], hlo2.set (Nat.mod_lt _ B_pos), by omega, hz2.set (by omega), fun h => (hz3 (by omega)).set (by omega), fun h => ?_, ?_⟩
    ·
     have h1 := getD_none hp (by omega); have h2 := hz3 (by omega) (i + j) e (by omega) he; subst h1 h2
     omega
    ·
     rw [val_take_getD, ← hp]; exact mul_step he hv2 rfl
 ·
  have hb : (limbs x).length ≤ i := by simpa using hb
  obtain rfl : i = (limbs x).length := by omega
  rw [List.take_length, val_limbs] at hv; refine vc_exit ?_; refine vc_keep [5] rfl ?_; refine vc_sr ?_; refine vr 1 ?_; refine vco_call rfl rfl (cut_ok (lim_uent _ _ o _ _ hol.symm (Nat.le_refl _)) hlo (by omega)) ?_; intro v1 H4 hp; refine vr 1 ?_; refine vco_k [4] ?_; refine vc_ret ⟨.inr rfl, _, .tmp rfl (.nil), ?_⟩; exact ⟨(Heap.le_ins _ hg).trans hp.le, by have := hp.nat; rwa [hv] at this⟩
theorem natSmall_ok {H : Heap} {u : Value} {l : List Nat} {m : Nat} (hu : LimV H u l) (hl : Lt l) (hm : m < 1000000000) (hm0 : 0 < m) (hs : (l.length : Int) ≤ 8796093022208) :
  Fn Tryz.prog 192 #[u, .int .u64 (m : Int)] H (fun v H' => Heap.le H H' ∧ ∃ q, v = .tuple #[q, .int .u64 ((val l % m : Nat) : Int)] ∧ NatV H' q (val l / m)) := by
 obtain ⟨A, c, rfl, hc, hr⟩ := hu; refine fn_intro (args := [_, _]) Tryz.func192 rfl rfl Tryz.ntmps192 rfl rfl fun w0 => ?_; refine vc_keep [0, 1] rfl ?_; refine vc_sr ?_; refine vr 2 ?_; refine vco_k [0, 1] ?_; refine vc_sr ?_; refine vr 2 ?_; refine vco_make Tryz.underlying29 el121 rfl rfl rfl (by omega) (by omega) (by omega) (by omega) ?_; intro g hg; rw [show ((l.length : Int)).toNat = l.length from by omega, made_uent']; have hrg := fun e => hr.le (Heap.le_ins (g := g) e hg); refine vr 1 ?_; refine vco_k [0, 1, 6] ?_; refine vc_sr ?_; refine vr 1 ?_; refine vco_k [0, 1, 6, 7] ?_; refine vc_seq ?_; refine vc_sr ?_; refine vr 2 ?_; refine vco_sub rfl rfl ⟨by omega, by omega⟩ ?_; refine vr 1 ?_; refine vco_k [0, 1, 6, 7, 8] ?_; refine vc_block ?_; refine vc_loop3 (fun (k : Nat) (o : List Nat) (rs : Nat) => k) (fun (k : Nat) (o : List Nat) (rs : Nat) => put (put (put (put (put (emp) 0 (.val (.slice A l.length c))) 1 (.val (.int .u64 (m : Int)))) 6 (.val (.slice (some ⟨g, 0, none⟩) l.length l.length))) 7 (.val (.int .u64 (rs : Int)))) 8 (.val (.int .i64 ((k : Int) - 1)))) (fun (k : Nat) (o : List Nat) (rs : Nat) H' => H' = ins H g (uent o l.length) ∧ k ≤ l.length ∧ o.length = l.length ∧ Lt o ∧ rs < m ∧ val (o.drop k) * m + rs = val (l.drop k)) l.length _ 0 (⟨rfl, by omega, by simp, Lt.replicate _, by omega, by simp [val]⟩) sub_auto ?_; rintro k o rs H1 ⟨rfl, hk, hol, hlo, hrs, hv⟩; refine vc_seq ?_
 refine vc_sr ?_; refine vr 2 ?_; refine vco_k [0, 1, 6, 7, 8, 16] ?_; refine vc_cond rfl (fun hb => ?_) (fun hb => ?_)
 ·
  have hb : 1 ≤ k := by simp at hb; omega
  obtain ⟨k, rfl⟩ : ∃ j, k = j + 1 := ⟨k - 1, by omega⟩; obtain ⟨d, hd⟩ : ∃ d, l[k]? = some d := ⟨_, List.getElem?_eq_getElem (by omega)⟩; have hdB := hl.get hd; rw [B_eq] at hdB
  have hj : (((k + 1 : Nat) : Int) - 1).toNat = k := by omega
  have hq0 : ((rs : Int) * 1000000000 + (d : Int)) / (m : Int) < 1000000000 := Int.ediv_lt_of_lt_mul (by omega) (by omega); have hq1 : 0 ≤ ((rs : Int) * 1000000000 + (d : Int)) / (m : Int) := Int.ediv_nonneg (by omega) (by omega); refine vc_skip ?_; refine vc_keep [0, 1, 6, 7, 8] rfl ?_; refine vc_seq ?_; refine vc_block ?_; refine vc_sr ?_; refine vr 1 ?_; refine vco_mul rfl rfl ⟨by omega, by omega⟩ ?_; refine vr 2 ?_; refine vco_at tbOk rfl rfl rfl rfl rfl (hrg _) (by rw [hj]; exact U_get hd) (by omega) (by omega) fun _ => ?_; refine vco_conv tbOk rfl rfl rfl ⟨by omega, by omega⟩ ?_; refine vco_add rfl rfl ⟨by omega, by omega⟩ ?_; refine vr 1 ?_; refine vco_k [0, 1, 6, 7, 8] ?_; refine vc_sr ?_; refine vr 4 ?_; refine vco_quo rfl rfl (by omega) (by omega) ⟨by omega, by omega⟩ ?_; refine vco_conv tbOk rfl rfl rfl ⟨by omega, by omega⟩ ?_; obtain ⟨ti, hti, htz⟩ := sz121; refine vco_set (.inl rfl) tbOk rfl rfl rfl (by omega) (by omega) (ins_same _ _ _) rfl (by rw [uent_len]; omega) hti htz (fun _ => rfl) rfl rfl rfl fun _ => ?_; refine vco_k [0, 1, 6, 7, 8] ?_; refine vc_region rfl ?_; refine vr 2 ?_; refine vco_rem rfl rfl (by omega) (by omega) ?_; refine vr 1 ?_; refine vco_end ?_; refine vc_keep [0, 1, 6, 7, 8] rfl ?_; refine vc_region rfl ?_; refine vr 1 ?_; refine vco_sub rfl rfl ⟨by omega, by omega⟩ ?_; refine vr 1 ?_; refine vco_end ?_
  have hq : (rs * 1000000000 + d) / m < 1000000000 := by rw [Nat.div_lt_iff_lt_mul hm0]; omega
  refine ⟨k, o.set k ((rs * 1000000000 + d) / m), (rs * 1000000000 + d) % m, by omega, sub_auto, by rw [set_uent (y := (rs * 1000000000 + d) / m) (by simp)]; rw [hj], by omega, by simp [hol], hlo.set (by rw [B_eq]; omega), Nat.mod_lt _ hm0, ?_⟩; rw [set_drop (by omega), drop_get hd, val_cons, val_cons, ← hv]; have := Nat.div_add_mod (rs * 1000000000 + d) m
  simp only [B_eq, Nat.add_mul, Nat.mul_add, Nat.mul_assoc]
  rw [Nat.mul_comm m] at this
  omega
 ·
  have hb : k = 0 := by simp at hb; omega
  subst hb
  simp only [List.drop_zero] at hv
  refine vc_exit ?_; refine vc_keep [6, 7] rfl ?_; refine vc_sr ?_; refine vr 1 ?_; refine vco_call rfl rfl (cut_ok (lim_uent _ _ o _ _ hol.symm (Nat.le_refl _)) hlo (by omega)) ?_; intro v1 H4 hp; refine vr 3 ?_; refine vco_k [4, 5] ?_; refine vc_ret ⟨.inr rfl, _, .tmp rfl (.tmp rfl (.nil)), ?_⟩; refine ⟨(Heap.le_ins _ hg).trans hp.le, v1, ?_, ?_⟩
  · rw [(div_of hv hrs).2]; rfl
  · rw [(div_of hv hrs).1]; exact hp.nat
end Go.Eng
/- Walks over package amortcostref1, part 4: the quotient. -/
namespace Go.Eng
open Go.Proofs Num
/-- The guess of a digit: any number below the base. -/
def RetG (H : Heap) (v : Value) (H' : Heap) : Prop := H' = H ∧ ∃ d : Nat, v = .int .u64 (d : Int) ∧ d ≤ 999999999
theorem guess_ok {H : Heap} {u v : Value} {x y : Nat} (hx : NatV H u x) (hy : NatV H v y) (hy2 : 2 ≤ (limbs y).length) (hxy : (limbs x).length ≤ (limbs y).length + 1) (hm : ((limbs y).length : Int) ≤ 8796093022208) :
  Fn Tryz.prog 193 #[u, v] H (RetG H) := by
 obtain ⟨A, c, rfl, hc, hr⟩ := hx
 obtain ⟨A', c', rfl, hc', hr'⟩ := hy
 have hla := (nrm_limbs x).lt
 have hlb := (nrm_limbs y).lt
 obtain ⟨k, hk⟩ : ∃ k, (limbs y).length = k + 2 := ⟨(limbs y).length - 2, by omega⟩
 have hj1 : (((limbs y).length : Int) - 1).toNat = k + 1 := by omega
 have hj2 : (((limbs y).length : Int) - 2).toNat = k := by omega
 obtain ⟨b1, hb1⟩ : ∃ z, (limbs y)[k + 1]? = some z := ⟨_, List.getElem?_eq_getElem (by omega)⟩
 obtain ⟨b0, hb0⟩ : ∃ z, (limbs y)[k]? = some z := ⟨_, List.getElem?_eq_getElem (by omega)⟩
 have hb1B := hlb.get hb1
 have hb0B := hlb.get hb0
 have hb10 : b1 ≠ 0 := (nrm_limbs y).last b1 (by rw [List.getLast?_eq_getElem?, hk]; exact hb1)
 rw [B_eq] at hb1B hb0B; refine fn_intro (args := [_, _]) Tryz.func193 rfl rfl Tryz.ntmps193 rfl rfl fun w0 => ?_; refine vc_keep [0, 1] rfl ?_; refine vc_sr ?_; refine vr 1 ?_; refine vco_k [0, 1] ?_; refine vc_sr ?_; refine vr 3 ?_; refine vco_k [0, 1, 5] ?_; refine vc_seq ?_; refine vc_sr ?_; refine vr 4 ?_; refine vco_k [0, 1, 5, 15] ?_; refine vc_cond rfl (fun hb => ?_) (fun hb => ?_)
 ·
  skip
  refine vc_sr ?_; refine vr 1 ?_; refine vco_k [4] ?_; refine vc_ret ⟨.inr rfl, _, .tmp rfl (.nil), ?_⟩; exact ⟨rfl, 0, rfl, by omega⟩
 ·
  have hb : (limbs y).length ≤ (limbs x).length := by simpa using hb
  obtain ⟨r1, hr1⟩ : ∃ z, (limbs x)[k + 1]? = some z := ⟨_, List.getElem?_eq_getElem (by omega)⟩; obtain ⟨r0, hr0⟩ : ∃ z, (limbs x)[k]? = some z := ⟨_, List.getElem?_eq_getElem (by omega)⟩; have hr1B := hla.get hr1; have hr0B := hla.get hr0; rw [B_eq] at hr1B hr0B; have hq0 : ((r1 : Int) * 1000000000 + (r0 : Int)) / ((b1 : Int) * 1000000000 + (b0 : Int)) < 1000000000 := Int.ediv_lt_of_lt_mul (by omega) (by omega); have hq1 : 0 ≤ ((r1 : Int) * 1000000000 + (r0 : Int)) / ((b1 : Int) * 1000000000 + (b0 : Int)) := Int.ediv_nonneg (by omega) (by omega); obtain ⟨q, hq⟩ : ∃ q : Nat, (q : Int) = ((r1 : Int) * 1000000000 + (r0 : Int)) / ((b1 : Int) * 1000000000 + (b0 : Int)) := ⟨_, Int.toNat_of_nonneg hq1⟩; rw [← hq] at hq0; refine vc_skip ?_; refine vc_keep [0, 1, 5] rfl ?_; refine vc_sd .drawB [0, 1, 2, 3, 4, 5, 6, 7, 8, 9, 10, 11, 12, 13, 14] follows (by kernel_rfl) ?_; refine vr 2 ?_; refine vco_sub rfl rfl ⟨by omega, by omega⟩ ?_; refine vco_at tbOk rfl rfl rfl rfl rfl (hr') (by rw [hj1]; exact U_get hb1) (by omega) (by omega) fun _ => ?_; refine vco_conv tbOk rfl rfl rfl ⟨by omega, by omega⟩ ?_; refine vco_mul rfl rfl ⟨by omega, by omega⟩ ?_; refine vr 2 ?_; refine vco_sub rfl rfl ⟨by omega, by omega⟩ ?_; refine vco_at tbOk rfl rfl rfl rfl rfl (hr') (by rw [hj2]; exact U_get hb0) (by omega) (by omega) fun _ => ?_; refine vco_conv tbOk rfl rfl rfl ⟨by omega, by omega⟩ ?_; refine vco_add rfl rfl ⟨by omega, by omega⟩ ?_; refine vr 1 ?_; refine vco_k [0, 5, 6] ?_
  refine vc_sd .drawB [0, 1, 2, 3, 4, 5, 6, 7, 8, 9, 10, 11, 12, 13, 14] follows (by kernel_rfl) ?_; refine vr 2 ?_; refine vco_sub rfl rfl ⟨by omega, by omega⟩ ?_; refine vco_at tbOk rfl rfl rfl rfl rfl (hr) (by rw [hj1]; exact U_get hr1) (by omega) (by omega) fun _ => ?_; refine vco_conv tbOk rfl rfl rfl ⟨by omega, by omega⟩ ?_; refine vco_mul rfl rfl ⟨by omega, by omega⟩ ?_; refine vr 2 ?_; refine vco_sub rfl rfl ⟨by omega, by omega⟩ ?_; refine vco_at tbOk rfl rfl rfl rfl rfl (hr) (by rw [hj2]; exact U_get hr0) (by omega) (by omega) fun _ => ?_; refine vco_conv tbOk rfl rfl rfl ⟨by omega, by omega⟩ ?_; refine vco_add rfl rfl ⟨by omega, by omega⟩ ?_; refine vr 1 ?_; refine vco_k [0, 5, 6, 7] ?_; refine vc_seq ?_; refine vc_sr ?_; refine vr 4 ?_; refine vco_k [0, 5, 6, 7, 47] ?_; refine vc_cond rfl (fun hb => ?_) (fun hb => ?_)
  ·
   skip
   refine vc_sr ?_; refine vr 2 ?_; refine vco_quo rfl rfl (by omega) (by omega) ⟨by rw [← hq]; omega, by rw [← hq]; omega⟩ ?_; rw [← hq]; refine vr 1 ?_; refine vco_k [4] ?_; refine vc_ret ⟨.inr rfl, _, .tmp rfl (.nil), ?_⟩; exact ⟨rfl, q, rfl, by omega⟩
  ·
   have hb : (limbs x).length = (limbs y).length + 1 := by simp at hb; omega
   obtain ⟨rn, hrn⟩ : ∃ z, (limbs x)[(limbs y).length]? = some z := ⟨_, List.getElem?_eq_getElem (by omega)⟩; refine vc_skip ?_; refine vc_keep [0, 5, 6, 7] rfl ?_; refine vc_sr ?_; refine vr 2 ?_; refine vco_at tbOk rfl rfl rfl rfl rfl (hr) (U_get hrn) (by omega) (by omega) fun _ => ?_; refine vco_tofl Tryz.underlying121 Tryz.underlying214 rfl fun f1 => ?_; refine vco_flop (.inr (.inl rfl)) rfl rfl fun f2 => ?_; refine vr 1 ?_; refine vco_tofl Tryz.underlying120 Tryz.underlying214 rfl fun f3 => ?_; refine vco_flop (.inl rfl) rfl rfl fun f4 => ?_; refine vr 1 ?_; refine vco_k [6, 8] ?_; refine vc_sr ?_; refine vr 2 ?_; refine vco_tofl Tryz.underlying120 Tryz.underlying214 rfl fun f5 => ?_; refine vco_flop (.inr (.inr rfl)) rfl rfl fun f6 => ?_; refine vco_flto Tryz.underlying214 Tryz.underlying120 rfl fun f7 hf7 => ?_; refine vr 1 ?_; refine vco_k [9] ?_; refine vc_sr ?_; refine vr 1 ?_; refine vco_ariw (v := ((f7 : Int) + 2) % 18446744073709551616) rfl rfl rfl ?_; refine vco_min rfl rfl ?_
   generalize hmn : (if (999999999 : Int) < ((f7 : Int) + 2) % 18446744073709551616 then (999999999 : Int) else ((f7 : Int) + 2) % 18446744073709551616) = mn
   have hmn2 : 0 ≤ mn ∧ mn ≤ 999999999 := by rw [← hmn]; split <;> omega
   obtain ⟨q2, rfl⟩ : ∃ q2 : Nat, mn = (q2 : Int) := ⟨mn.toNat, by omega⟩; refine vr 1 ?_; refine vco_k [4] ?_; refine vc_ret ⟨.inr rfl, _, .tmp rfl (.nil), ?_⟩; exact ⟨rfl, q2, rfl, by omega⟩
end Go.Eng
/- Walks over package amortcostref1, part 5: division. -/
namespace Go.Eng
open Go.Proofs Num
theorem cmpN_pos {x y : Nat} : (0 < cmpN x y) ↔ y < x := by
  unfold cmpN; split
  · omega
  · split <;> omega
theorem cmpN_neg {x y : Nat} : (cmpN x y < 0) ↔ x < y := by
  unfold cmpN; split
  · omega
  · split <;> omega
theorem cmpN_ge0 {x y : Nat} : (0 ≤ cmpN x y) ↔ y ≤ x := by
  unfold cmpN; split
  · omega
  · split <;> omega
theorem val_drop_cons {l : List Nat} {k d : Nat} (h : l[k]? = some d) : val (l.drop k) = d + B * val (l.drop (k + 1)) := by
  obtain ⟨hk, e⟩ := List.getElem?_eq_some_iff.1 h
  rw [List.drop_eq_getElem_cons hk, e, val_cons]
theorem lt_cons {a : Nat} {l : List Nat} (ha : a < B) (h : Lt l) : Lt (a :: l) := fun z hz => by
  rcases List.mem_cons.1 hz with rfl | hz
  · exact ha
  · exact h z hz
theorem OwnU.lim' {H : Heap} {v : Value} {l : List Nat} (h : Own H v 121 1 l.length (U l)) : LimV H v l := OwnU.lim h
theorem natDiv_ok {H : Heap} {u v : Value} {x y : Nat} (hx : NatV H u x) (hy : NatV H v y) (hy0 : 0 < y) (hm : ((limbs x).length : Int) < 4398046511104) (hm' : ((limbs y).length : Int) < 4398046511104) :
  Fn Tryz.prog 150 #[u, v] H (RetQR H x y) := by
 have hx0 := hx
 have hy1 := hy
 obtain ⟨A, c, rfl, hc, hr⟩ := hx
 obtain ⟨A', c', rfl, hc', hr'⟩ := hy
 have hla := (nrm_limbs x).lt
 have hlb := (nrm_limbs y).lt
 have hyne : (limbs y).length ≠ 0 := fun e => limbs_ne hy0 (List.eq_nil_of_length_eq_zero e); refine fn_intro (args := [_, _]) Tryz.func150 rfl rfl Tryz.ntmps150 rfl rfl fun w0 => ?_; refine vc_keep [0, 1] rfl ?_; refine vc_sr ?_; refine vr 2 ?_; refine vco_k [0, 1] ?_; refine vc_seq ?_; refine vc_sr ?_; refine vr 2 ?_; refine vco_call rfl rfl (natCmp_ok hx0 hy1 (by omega)) ?_; rintro v1 H1 ⟨e1, rfl⟩; rw [e1]; refine vr 1 ?_; refine vco_k [0, 1, 15] ?_; refine vc_cond rfl (fun hb => ?_) (fun hb => ?_)
 ·
  have hxy : x < y := cmpN_neg.1 (by simpa using hb); refine vc_sr ?_; refine vr 1 ?_; refine vco_call rfl rfl (cut_ok hx0 hla (by omega)) ?_; rintro v1 H1 hp; rw [val_limbs] at hp; refine vr 2 ?_; refine vco_k [4, 5] ?_; refine vc_ret ⟨.inr rfl, _, .tmp rfl (.tmp rfl (.nil)), ?_⟩; exact ⟨hp.le, _, _, rfl, by rw [Nat.div_eq_of_lt hxy]; exact natV_zero _, by rw [Nat.mod_eq_of_lt hxy]; exact hp.nat⟩
 ·
  have hxy : y ≤ x := cmpN_ge0.1 (by simpa using hb); refine vc_skip ?_; refine vc_keep [0, 1] rfl ?_; refine vc_seq ?_; refine vc_sr ?_; refine vr 3 ?_; refine vco_k [0, 1, 20] ?_; refine vc_cond rfl (fun hb => ?_) (fun hb => ?_)
  ·
   have hb : (limbs y).length = 1 := by simp at hb; omega
   have hy2 : (limbs y)[0]? = some y := by
    obtain ⟨z, hz⟩ := List.length_eq_one_iff.1 hb; have := val_limbs y; rw [hz] at this ⊢
    simp [val] at this
    simp [this]
   have hyB := hlb.get hy2; rw [B_eq] at hyB; refine vc_sr ?_; refine vr 2 ?_; refine vco_at tbOk rfl rfl rfl rfl rfl (hr') (U_get hy2) (by omega) (by omega) fun _ => ?_; refine vco_conv tbOk rfl rfl rfl ⟨by omega, by omega⟩ ?_; refine vco_call rfl rfl (natSmall_ok hx0 hla hyB hy0 (by omega)) ?_; rintro v1 H2 ⟨hle, q, rfl, hq⟩; refine vr 1 ?_; rw [val_limbs] at hq ⊢; refine vr 4 ?_; refine vco_k [6, 7] ?_; refine vc_sr ?_; refine vr 2 ?_; refine vco_call rfl rfl (limbs_ok (x := x % y) (by have := Nat.mod_lt x hy0; omega)) ?_; intro v1 H3 hp; refine vr 2 ?_; refine vco_k [4, 5] ?_; refine vc_ret ⟨.inr rfl, _, .tmp rfl (.tmp rfl (.nil)), ?_⟩; exact ⟨hle.trans hp.le, _, _, rfl, hq.le hp.le, hp.nat⟩
  ·
   have hb : (limbs y).length ≠ 1 := by simp at hb; omega
   have hn2 : 2 ≤ (limbs y).length := by omega
   refine vc_skip ?_; refine vc_keep [0, 1] rfl ?_; refine vc_sr ?_; refine vr 2 ?_; refine vco_make Tryz.underlying29 el121 rfl rfl rfl (by omega) (by omega) (by omega) (by omega) ?_; intro g hg; rw [show (((limbs x).length : Int)).toNat = (limbs x).length from by omega, made_uent']; refine vr 1 ?_; refine vco_k [0, 1, 8] ?_; refine vc_sr ?_; refine vr 1 ?_; refine vco_k [0, 1, 8, 9] ?_; refine vc_seq ?_; refine vc_sr ?_; refine vr 2 ?_; refine vco_sub rfl rfl ⟨by omega, by omega⟩ ?_; refine vr 1 ?_; refine vco_k [0, 1, 8, 9, 10] ?_; refine vc_block ?_; refine vc_loop4 (fun (k : Nat) (rv : Value) (r : Nat) (l : List Nat) => k) (fun (k : Nat) (rv : Value) (r : Nat) (l : List Nat) => put (put (put (put (put (emp) 0 (.val (.slice A (limbs x).length c))) 1 (.val (.slice A' (limbs y).length c'))) 8 (.val (.slice (some ⟨g, 0, none⟩) (limbs x).length (limbs x).length))) 9 (.val (rv))) 10 (.val (.int .i64 ((k : Int) - 1)))) (fun (k : Nat) (rv : Value) (r : Nat) (l : List Nat) H' => Heap.le H (rem H' [g]) ∧ H' g = some (uent l (limbs x).length) ∧ l.length = (limbs x).length ∧ Lt l ∧ k ≤ (limbs x).length ∧ r < y ∧ NatV (rem H' [g]) rv r ∧ val ((limbs x).drop k) = val (l.drop k) * y + r) (limbs x).length (.slice none 0 0) 0 _ (⟨by rw [rem_ins_new _ hg, rem_nil]; exact .refl _, ins_same _ _ _, by simp, Lt.replicate _, Nat.le_refl _, hy0, natV_zero _, by simp [val]⟩) sub_auto ?_; rintro k rv r l H1 ⟨hle, hgq, hll, hlt, hk, hry, hrv, hv⟩
   obtain ⟨Ar, cr, rfl, hcr, hrr⟩ := id hrv; have hrlen := limbs_len_mono (Nat.le_of_lt hry); have hleH := hle.trans (rem_le H1 [g]); refine vc_seq ?_; refine vc_sr ?_; refine vr 2 ?_; refine vco_k [0, 1, 8, 9, 10, 40] ?_; refine vc_cond rfl (fun hb => ?_) (fun hb => ?_)
   ·
    have hb : 0 < k := by simp at hb; omega
    obtain ⟨ai, hai⟩ : ∃ d, (limbs x)[k - 1]? = some d := ⟨_, List.getElem?_eq_getElem (by omega)⟩; have haiB := hla.get hai; rw [B_eq] at haiB
    have hki : (((k : Int) - 1)).toNat = k - 1 := by omega
    refine vc_skip ?_; refine vc_keep [0, 1, 8, 9, 10] rfl ?_; refine vc_seq ?_; refine vc_block ?_; refine vc_sr ?_; refine vr 2 ?_; refine vco_at tbOk rfl rfl rfl rfl rfl (hr.le hleH) (by rw [hki]; exact U_get hai) (by omega) (by omega) fun _ => ?_; refine vco_build Tryz.underlying29 el121 rfl rfl rfl rfl rfl rfl rfl ?_; intro gb hgb
    have hgbg : gb ≠ g := fun e => by subst e; rw [hgq] at hgb; cases hgb
    refine vr 1 ?_; refine vco_append Tryz.underlying29 el121 rfl rfl ((⟨rfl, .inr ⟨gb, 1, rfl, ins_same _ _ _, Nat.le_refl _, by decide⟩⟩ : Own _ _ 121 1 1 (U [ai]))) ((hrr.le (rem_le _ _)).le (Heap.le_ins _ hgb)) (by rw [U_length, Nat.mul_one]) (U_one _) (by omega) (by omega) ?_; intro v1 H2 ha; have hr1 := ha.rem (gs := [g]) (fun q hq => by simp only [List.mem_singleton] at hq; subst hq; rw [ins_other _ _ (Ne.symm hgbg), hgq]; simp) (fun q hq => by simp only [List.mem_singleton] at hq; subst hq; intro e; cases e; exact hgbg rfl)
    have hg2 : H2 g = some (uent l (limbs x).length) := by rw [hr1.2 g (List.mem_singleton.2 rfl), ins_other _ _ (Ne.symm hgbg), hgq]
    have hle2 : Heap.le (rem H1 [g]) (rem H2 [g]) := (rem_mono [g] (Heap.le_ins _ hgb)).trans hr1.1.le; have hlim : LimV (rem H2 [g]) v1 (ai :: limbs r) := OwnU.lim' (by have h0 := hr1.1.own; rw [← U_append, Nat.add_comm] at h0; exact h0); refine vco_call rfl rfl (Fn.frame (gs := [g]) (fun q hq => by simp only [List.mem_singleton] at hq; subst hq; rw [hg2]; simp) (cut_ok hlim (lt_cons (by rw [B_eq]; exact haiB) (nrm_limbs r).lt) (by rw [List.length_cons]; omega))) ?_; rintro v2 H3 ⟨hp3, hs3⟩; rw [val_cons, val_limbs] at hp3; obtain ⟨r1, hr1d⟩ : ∃ r1, r1 = ai + B * r := ⟨_, rfl⟩; rw [← hr1d] at hp3; have hg3 := (hs3 g (List.mem_singleton.2 rfl)).trans hg2; have hle3 := hle2.trans hp3.le
    have hr1B : r1 < B * y := by rw [hr1d, B_eq]; omega
    have hr1l : (limbs r1).length ≤ (limbs y).length + 1 := limbs_len_le.2 (by rw [Nat.pow_succ, Nat.mul_comm _ B]; exact Nat.lt_trans hr1B (Nat.mul_lt_mul_of_pos_left (limbs_lt y) B_pos)); have hy3 := (hy1.le hle).le hle3; have hn3 := hp3.nat; obtain ⟨A3, c3, rfl, hc3, hr3⟩ := id hn3; refine vr 1 ?_; refine vco_k [0, 1, 8, 9, 10] ?_; refine vc_sr ?_; refine vr 2 ?_; refine vco_call rfl rfl (Fn.frame (gs := [g]) (fun q hq => by simp only [List.mem_singleton] at hq; subst hq; rw [hg3]; simp) (guess_ok hn3 hy3 hn2 hr1l (by omega))) ?_; rintro v3 H4 ⟨⟨hp4, d0, rfl, hd0⟩, hs4⟩; have hg4 := (hs4 g (List.mem_singleton.2 rfl)).trans hg3
    have hle4 : Heap.le (rem H1 [g]) (rem H4 [g]) := by rw [hp4]; exact hle3
    refine vr 1 ?_; refine vco_k [0, 1, 8, 9, 10, 11] ?_; refine vc_cut1 (fun (d : Nat) => put (put (put (put (put (put (emp) 0 (.val (.slice A (limbs x).length c))) 1 (.val (.slice A' (limbs y).length c'))) 8 (.val (.slice (some ⟨g, 0, none⟩) (limbs x).length (limbs x).length))) 9 (.val (.slice A3 (limbs r1).length c3))) 10 (.val (.int .i64 ((k : Int) - 1)))) 11 (.val (.int .u64 (d : Int)))) (fun (d : Nat) H' => Heap.le (rem H3 [g]) (rem H' [g]) ∧ H' g = some (uent l (limbs x).length) ∧ d ≤ 999999999 ∧ y * d ≤ r1) ?_ ?_
    ·
     refine vc_block ?_; refine vc_loop1 (fun (d : Nat) => d) (fun (d : Nat) => put (put (put (put (put (put (emp) 0 (.val (.slice A (limbs x).length c))) 1 (.val (.slice A' (limbs y).length c'))) 8 (.val (.slice (some ⟨g, 0, none⟩) (limbs x).length (limbs x).length))) 9 (.val (.slice A3 (limbs r1).length c3))) 10 (.val (.int .i64 ((k : Int) - 1)))) 11 (.val (.int .u64 (d : Int)))) (fun (d : Nat) H' => Heap.le (rem H3 [g]) (rem H' [g]) ∧ H' g = some (uent l (limbs x).length) ∧ d ≤ 999999999) d0 (⟨by rw [hp4]; exact .refl _, hg4, hd0⟩) sub_auto ?_; rintro d H5 ⟨hle5, hg5, hd5⟩; have hy5 := hy3.le hle5; have hn5 := hn3.le hle5; refine vc_seq ?_
     rcases Nat.eq_zero_or_pos d with hd0 | hd0
     ·
      subst hd0; refine vc_sr ?_; refine vr 1 ?_; refine vco_cmp false rfl rfl (cgt_f (by omega)) ?_; refine vr 9 ?_; refine vco_k [0, 1, 8, 9, 10, 11, 64] ?_; refine vc_cond_f rfl ?_; refine vc_exit ?_; exact ⟨0, sub_auto, hle5, hg5, by omega, by omega⟩
     ·
      have hld : (limbs d).length ≤ 3 := limbs_len_le.2 (by rw [B_eq]; omega); refine vc_sr ?_; refine vr 1 ?_; refine vco_cmp true rfl rfl (cgt_t (by omega)) ?_; refine vr 3 ?_; refine vco_call rfl rfl (Fn.frame (gs := [g]) (fun q hq => by simp only [List.mem_singleton] at hq; subst hq; rw [hg5]; simp) (limbs_ok (x := d) (by omega))) ?_; rintro v4 Ha ⟨hpa, hsa⟩; have hga := (hsa g (List.mem_singleton.2 rfl)).trans hg5; refine vco_call rfl rfl (Fn.frame (gs := [g]) (fun q hq => by simp only [List.mem_singleton] at hq; subst hq; rw [hga]; simp) (natMul_ok (hy5.le hpa.le) hpa.nat (by omega) (by omega))) ?_; rintro v5 Hb ⟨hpb, hsb⟩; have hgb2 := (hsb g (List.mem_singleton.2 rfl)).trans hga; have hml := len_mul y d; refine vr 1 ?_; refine vco_call rfl rfl (Fn.frame (gs := [g]) (fun q hq => by simp only [List.mem_singleton] at hq; subst hq; rw [hgb2]; simp) (natCmp_ok hpb.nat ((hn5.le hpa.le).le hpb.le) (by omega))) ?_; rintro v6 Hc ⟨⟨hec, rfl⟩, hsc⟩; have hgm := (hsc g (List.mem_singleton.2 rfl)).trans hgb2
      have hlem : Heap.le (rem H3 [g]) (rem Hc [g]) := by rw [hec]; exact (hle5.trans hpa.le).trans hpb.le
      refine vr 2 ?_; refine vco_k [0, 1, 8, 9, 10, 11, 64] ?_; refine vc_cond rfl (fun hb => ?_) (fun hb => ?_)
      ·
       have hb : r1 < y * d := cmpN_pos.1 (by simpa using hb); refine vc_skip ?_; refine vc_keep [0, 1, 8, 9, 10, 11] rfl ?_; refine vc_block ?_; refine vc_region rfl ?_; refine vr 1 ?_; refine vco_sub rfl rfl ⟨by omega, by omega⟩ ?_; refine vr 1 ?_; refine vco_end ?_; exact ⟨d - 1, by omega, sub_auto, hlem, hgm, by omega⟩
      ·
       have hb : y * d ≤ r1 := by
        have : ¬ 0 < cmpN (y * d) r1 := by simpa using hb
        rw [cmpN_pos] at this; omega
       refine vc_exit ?_; exact ⟨d, sub_auto, hlem, hgm, hd5, hb⟩
    ·
     rintro d H6 ⟨hle6, hg6, hd6, hyd⟩; have hy6 := hy3.le hle6; have hn6 := hn3.le hle6; have hld : (limbs d).length ≤ 3 := limbs_len_le.2 (by rw [B_eq]; omega); refine vc_sr ?_; refine vr 3 ?_; refine vco_call rfl rfl (Fn.frame (gs := [g]) (fun q hq => by simp only [List.mem_singleton] at hq; subst hq; rw [hg6]; simp) (limbs_ok (x := d) (by omega))) ?_; rintro v4 Ha ⟨hpa, hsa⟩; have hga := (hsa g (List.mem_singleton.2 rfl)).trans hg6; refine vco_call rfl rfl (Fn.frame (gs := [g]) (fun q hq => by simp only [List.mem_singleton] at hq; subst hq; rw [hga]; simp) (natMul_ok (hy6.le hpa.le) hpa.nat (by omega) (by omega))) ?_; rintro v5 Hb ⟨hpb, hsb⟩; have hgb2 := (hsb g (List.mem_singleton.2 rfl)).trans hga; refine vco_call rfl rfl (Fn.frame (gs := [g]) (fun q hq => by simp only [List.mem_singleton] at hq; subst hq; rw [hgb2]; simp) (natSub_ok ((hn6.le hpa.le).le hpb.le) hpb.nat hyd (by omega))) ?_; rintro v6 Hc ⟨hpc, hsc⟩; have hgc := (hsc g (List.mem_singleton.2 rfl)).trans hgb2; have hlec := ((hle6.trans hpa.le).trans hpb.le).trans hpc.le; refine vr 1 ?_; refine vco_k [0, 1, 8, 9, 10, 11] ?_; refine vc_seq ?_; refine vc_block ?_; refine vc_loop3 (fun (d2 : Nat) (rv2 : Value) (r2 : Nat) => r2) (fun (d2 : Nat) (rv2 : Value) (r2 : Nat) => put (put (put (put (put (put (emp) 0 (.val (.slice A (limbs x).length c))) 1 (.val (.slice A' (limbs y).length c'))) 8 (.val (.slice (some ⟨g, 0, none⟩) (limbs x).length (limbs x).length))) 9 (.val (rv2))) 10 (.val (.int .i64 ((k : Int) - 1)))) 11 (.val (.int .u64 (d2 : Int)))) (fun (d2 : Nat) (rv2 : Value) (r2 : Nat) H' => Heap.le (rem H3 [g]) (rem H' [g]) ∧ H' g = some (uent l (limbs x).length) ∧ NatV (rem H' [g]) rv2 r2 ∧ r1 = y * d2 + r2) d _ (r1 - y * d) (⟨hlec, hgc, hpc.nat, by omega⟩) sub_auto ?_
     rintro d2 rv2 r2 H6b ⟨hle8, hg8, hn8, he8⟩; obtain ⟨A8, c8, rfl, hc8, hr8⟩ := id hn8; have hy8 := hy3.le hle8; have hl8 := limbs_len_mono (show r2 ≤ r1 by omega)
     have hd2B : d2 < 1000000000 := by
      false_or_by_contra
      have : y * 1000000000 ≤ y * d2 := Nat.mul_le_mul_left _ (by omega); rw [B_eq, Nat.mul_comm] at hr1B; omega
     refine vc_seq ?_; refine vc_sr ?_; refine vr 2 ?_; refine vco_call rfl rfl (Fn.frame (gs := [g]) (fun q hq => by simp only [List.mem_singleton] at hq; subst hq; rw [hg8]; simp) (natCmp_ok hn8 hy8 (by omega))) ?_; rintro v7 H9 ⟨⟨he9, rfl⟩, hs9⟩; have hg9 := (hs9 g (List.mem_singleton.2 rfl)).trans hg8
     have hle9 : Heap.le (rem H3 [g]) (rem H9 [g]) := by rw [he9]; exact hle8
     have hn9 : NatV (rem H9 [g]) (.slice A8 (limbs r2).length c8) r2 := by rw [he9]; exact hn8
     refine vr 1 ?_; refine vco_k [0, 1, 8, 9, 10, 11, 76] ?_; refine vc_cond rfl (fun hb => ?_) (fun hb => ?_)
     ·
      have hb : y ≤ r2 := cmpN_ge0.1 (by simpa using hb); refine vc_skip ?_; refine vc_keep [0, 1, 8, 9, 10, 11] rfl ?_; refine vc_block ?_; refine vc_sr ?_; refine vr 2 ?_; refine vco_call rfl rfl (Fn.frame (gs := [g]) (fun q hq => by simp only [List.mem_singleton] at hq; subst hq; rw [hg9]; simp) (natSub_ok hn9 (hy3.le hle9) hb (by omega))) ?_; rintro v8 H10 ⟨hp10, hs10⟩; have hg10 := (hs10 g (List.mem_singleton.2 rfl)).trans hg9; refine vr 1 ?_; refine vco_k [0, 1, 8, 9, 10, 11] ?_; refine vc_region rfl ?_; refine vr 1 ?_; refine vco_add rfl rfl ⟨by omega, by omega⟩ ?_; refine vr 1 ?_; refine vco_end ?_; exact ⟨d2 + 1, _, r2 - y, by omega, sub_auto, hle9.trans hp10.le, hg10, hp10.nat, by rw [Nat.mul_add, Nat.mul_one]; omega⟩
     ·
      have hr3y : r2 < y := by
       have : ¬ 0 ≤ cmpN r2 y := by simp at hb; omega
       rw [cmpN_ge0] at this; omega
      obtain ⟨r3, rfl⟩ : ∃ r3, r3 = r2 := ⟨_, rfl⟩; obtain ⟨d3, rfl⟩ : ∃ d3, d3 = d2 := ⟨_, rfl⟩; refine vc_exit ?_; refine vc_keep [0, 1, 8, 9, 10, 11] rfl ?_; refine vc_region rfl ?_; refine vr 3 ?_; refine vco_conv tbOk rfl rfl rfl ⟨by omega, by omega⟩ ?_; obtain ⟨ti, hti, htz⟩ := sz121; refine vco_set (.inl rfl) tbOk rfl rfl rfl (by omega) (by omega) (hg9) rfl (by rw [uent_len]; omega) hti htz (fun _ => rfl) rfl rfl rfl fun _ => ?_; refine vco_end ?_
      have hset : ins H9 g { uent l (limbs x).length with xs := splice (uent l (limbs x).length).xs (0 + ((k : Int) - 1).toNat * 1) [.int .u32 (d3 : Int)] } = ins H9 g (uent (l.set (k - 1) d3) (limbs x).length) := by
       rw [hki]; simp only [uent, splice, Nat.zero_add, Nat.mul_one, U_set]
      have hle7 : Heap.le H (rem (ins H9 g { uent l (limbs x).length with xs := splice (uent l (limbs x).length).xs (0 + ((k : Int) - 1).toNat * 1) [.int .u32 (d3 : Int)] }) [g]) := by
       rw [rem_ins_in _ (List.mem_singleton.2 rfl)]; exact (hle.trans hle3).trans hle9
      have hr7 := hn9; refine vc_keep [0, 1, 8, 9, 10] rfl ?_; refine vc_region rfl ?_; refine vr 1 ?_; refine vco_sub rfl rfl ⟨by omega, by omega⟩ ?_; refine vr 1 ?_; refine vco_end ?_; refine ⟨k - 1, _, r3, l.set (k - 1) d3, by omega, sub_auto, hle7, by rw [hset, ins_same], by simp [hll], hlt.set (by rw [B_eq]; omega), by omega, hr3y, by rw [hset, rem_ins_in _ (List.mem_singleton.2 rfl)]; exact hr7, ?_⟩; rw [val_drop_cons hai, show k - 1 + 1 = k by omega, val_drop_cons (l := l.set (k - 1) d3) (List.getElem?_set_self (by omega)), show k - 1 + 1 = k by omega, List.drop_set_of_lt (by omega), hv]
      have h1 : B * (val (List.drop k l) * y + r) = B * val (List.drop k l) * y + B * r := by rw [Nat.mul_add, Nat.mul_assoc]
      have h2 : (d3 + B * val (List.drop k l)) * y = y * d3 + B * val (List.drop k l) * y := by rw [Nat.add_mul, Nat.mul_comm d3]
      rw [h1, h2]; omega
   ·
    have hb : k = 0 := by simp at hb; omega
    subst hb; rw [List.drop_zero, List.drop_zero, val_limbs] at hv
    have hqv : val l = x / y := by rw [hv, Nat.add_comm, Nat.add_mul_div_right _ _ hy0, Nat.div_eq_of_lt hry, Nat.zero_add]
    have hrm : r = x % y := by rw [hv, Nat.add_comm, Nat.add_mul_mod_self_right, Nat.mod_eq_of_lt hry]
    refine vc_exit ?_; refine vc_keep [8, 9] rfl ?_; refine vc_sr ?_; refine vr 1 ?_; refine vco_call rfl rfl (cut_ok (l := l) ⟨some ⟨g, 0, none⟩, _, by rw [hll], by omega, fun i v hv => ⟨_, rfl, by simp [cell, addr0, hgq, uent, hv]⟩⟩ hlt (by omega)) ?_; rintro v9 H11 hp11; refine vr 3 ?_; refine vco_k [4, 5] ?_; refine vc_ret ⟨.inr rfl, _, .tmp rfl (.tmp rfl (.nil)), ?_⟩; exact ⟨(hle.trans (rem_le _ _)).trans hp11.le, _, _, rfl, by rw [← hqv]; exact hp11.nat, by rw [← hrm]; exact (hrv.le (rem_le _ _)).le hp11.le⟩
end Go.Eng
/- Walks over package amortcostref1, part 6: gcd, build, the rational numbers. -/
namespace Go.Eng
open Go.Proofs Num
theorem szQ_frac (f : Bool) (n d : Nat) (k : Nat) (hn : (limbs n).length ≤ k) (hd : (limbs d).length ≤ k) : szQ (frac f n d) ≤ k + 1 ∧ (0 < d → szQ (frac f n d) ≤ k) := by
  rcases Nat.eq_zero_or_pos d with e | e
  · subst e
    rw [frac_den0]
    refine ⟨?_, fun h => by omega⟩
    have : szQ 0 = 1 := by
      unfold szQ
      show max (limbs 0).length (limbs 1).length = 1
      rw [limbs_zero, limbs_one]; rfl
    omega
  · have h1 := limbs_len_mono (Nat.div_le_self n (Nat.gcd n d))
    have h2 := limbs_len_mono (Nat.div_le_self d (Nat.gcd n d))
    have : szQ (frac f n d) ≤ k := by
      unfold szQ
      rw [frac_abs e, frac_den e]; omega
    exact ⟨by omega, fun _ => this⟩
theorem RawV.size {H : Heap} {v : Value} {q : Rat} {N : Nat} (h : RawV H v q N) : szQ q ≤ N + 2 := by
  obtain ⟨f, u, w, l1, l2, _, _, _, h1, h2, h3, h4, rfl⟩ := h
  have k1 := len_val32 h1
  have k2 := len_val32 h2
  exact (szQ_frac f _ _ (N + 1) (by omega) (by omega)).1
theorem canV_zero {H : Heap} {w : Value} (hw : NatV H w 1) : CanV H (.agg #[.bool false, .slice none 0 0, w]) 0 := ⟨_, _, rfl, natV_zero H, hw⟩
theorem canV_frac {H : Heap} {f : Bool} {u w : Value} {n d : Nat} (hn : 0 < n) (hd : 0 < d) (hu : NatV H u (n / Nat.gcd n d)) (hw : NatV H w (d / Nat.gcd n d)) : CanV H (.agg #[.bool f, u, w]) (frac f n d) := by
  refine ⟨u, w, ?_, by rw [frac_abs hd]; exact hu, by rw [frac_den hd]; exact hw⟩
  rw [frac_sign hd hn]
theorem cmp_sub (p q : Rat) : sgnQ (p - q) = cmpQ p q := by
  unfold sgnQ cmpQ
  by_cases h : p < q
  · rw [if_pos (by grind), if_pos h]
  · rw [if_neg (by grind), if_neg h]
    by_cases e : p = q
    · rw [if_pos (by grind), if_pos e]
    · rw [if_neg (by grind), if_neg e]
theorem NatV.l32 {H : Heap} {v : Value} {x : Nat} (h : NatV H v x) : LimV H v (limbs x) := h
theorem natGcd_ok {H : Heap} {u v : Value} {x y : Nat} (hx : NatV H u x) (hy : NatV H v y) (hm : ((limbs x).length : Int) < 4398046511104) (hm' : ((limbs y).length : Int) < 4398046511104) :
  Fn Tryz.prog 149 #[u, v] H (RetN H (Nat.gcd x y)) := by
 refine fn_intro (args := [_, _]) Tryz.func149 rfl rfl Tryz.ntmps149 rfl rfl fun w0 => ?_; refine vc_keep [0, 1] rfl ?_; refine vc_sr ?_; refine vr 1 ?_; refine vco_k [0, 1] ?_; refine vc_seq ?_; refine vc_block ?_; refine vc_loop4 (fun (u : Value) (a : Nat) (v : Value) (b : Nat) => b) (fun (u : Value) (a : Nat) (v : Value) (b : Nat) => put (put (emp) 0 (.val (u))) 1 (.val (v))) (fun (u : Value) (a : Nat) (v : Value) (b : Nat) H' => Heap.le H H' ∧ NatV H' u a ∧ NatV H' v b ∧ ((limbs a).length : Int) < 4398046511104 ∧ ((limbs b).length : Int) < 4398046511104 ∧ Nat.gcd a b = Nat.gcd x y) _ x _ y (⟨.refl _, hx, hy, hm, hm', rfl⟩) sub_auto ?_; rintro u a v b H1 ⟨hle, ha, hbv, hla, hlb, hg⟩; obtain ⟨Aha, cha, rfl, hcha, hrha⟩ := id ha; obtain ⟨Ahbv, chbv, rfl, hchbv, hrhbv⟩ := id hbv; refine vc_seq ?_; refine vc_sr ?_; refine vr 3 ?_; refine vco_k [0, 1, 9] ?_; refine vc_cond rfl (fun hb => ?_) (fun hb => ?_)
 ·
  have hb : 0 < b := Nat.pos_of_ne_zero fun e => by rw [limbs_len_zero.2 e] at hb; simp at hb
  refine vc_skip ?_; refine vc_keep [0, 1] rfl ?_; refine vc_block ?_; refine vc_sr ?_; refine vr 2 ?_; refine vco_call rfl rfl (natDiv_ok ha hbv hb hla hlb) ?_; rintro v2 H2 ⟨hl2, q2, r2, rfl, hq2, hr2⟩; refine vr 5 ?_; refine vco_k [1, 6] ?_; refine vc_region rfl ?_; refine vr 4 ?_; refine vco_end ?_; have hlr := limbs_len_mono (Nat.le_of_lt (Nat.mod_lt a hb)); exact ⟨_, b, _, a % b, Nat.mod_lt a hb, sub_auto, hle.trans hl2, hbv.le hl2, hr2, hlb, by omega, by rw [← hg, Nat.gcd_comm b, ← Nat.gcd_rec, Nat.gcd_comm]⟩
 ·
  have hb : b = 0 := limbs_len_zero.1 (by have := of_decide_eq_false hb; omega); subst hb; rw [Nat.gcd_zero_right] at hg; subst hg; refine vc_exit ?_; refine vc_keep [0] rfl ?_; refine vc_sr ?_; refine vr 2 ?_; refine vco_k [4] ?_; refine vc_ret ⟨.inr rfl, _, .tmp rfl (.nil), ?_⟩; exact ⟨hle, ha⟩
theorem build_ok {H : Heap} {u v : Value} {f : Bool} {l1 l2 : List Nat} (hu : LimV H u l1) (hv : LimV H v l2) (h1 : ∀ x, x ∈ l1 → x < 4294967296) (h2 : ∀ x, x ∈ l2 → x < 4294967296) (hm : (l1.length : Int) ≤ 4398046511000) (hm' : (l2.length : Int) ≤ 4398046511000) :
  Fn Tryz.prog 75 #[.bool f, u, v] H (RetQ H (frac f (val l1) (val l2))) := by
 have k1 := len_val32 h1
 have k2 := len_val32 h2
 obtain ⟨Ahu, chu, rfl, hchu, hrhu⟩ := id hu
 obtain ⟨Ahv, chv, rfl, hchv, hrhv⟩ := id hv; refine fn_intro (args := [_, _, _]) Tryz.func75 rfl rfl Tryz.ntmps75 rfl rfl fun w0 => ?_; refine vc_keep [0, 1, 2] rfl ?_; refine vc_sr ?_; refine vco_alloc el31 rfl ?_; refine vco_k [0, 1, 2, 6] ?_; refine vc_sr ?_; refine vr 1 ?_; refine vco_call rfl rfl (rnat_ok hu h1 (by omega)) ?_; rintro v1 H1 hp1; refine vr 1 ?_; refine vco_call rfl rfl (rnat_ok (hv.le hp1.le) h2 (by omega)) ?_; rintro v2 H2 hp2; obtain ⟨n, hn⟩ : ∃ n, n = val l1 := ⟨_, rfl⟩; obtain ⟨d, hd⟩ : ∃ d, d = val l2 := ⟨_, rfl⟩; rw [← hn] at hp1 k1; rw [← hd] at hp2 k2; have hn1 := hp1.nat.le hp2.le; have hn2 := hp2.nat; obtain ⟨Ahn1, chn1, rfl, hchn1, hrhn1⟩ := id hn1; obtain ⟨Ahn2, chn2, rfl, hchn2, hrhn2⟩ := id hn2; have hle := hp1.le.trans hp2.le; rw [← hn, ← hd]; refine vr 2 ?_; refine vco_k [0, 1, 2, 6] ?_; refine vc_seq ?_
 rcases Nat.eq_zero_or_pos n with hn0 | hn0
 ·
  have hl0 := limbs_len_zero.2 hn0; refine vc_sr ?_; refine vr 2 ?_; refine vco_cmp true rfl rfl (ceq_t (by omega)) ?_; refine vr 5 ?_; refine vco_k [0, 1, 2, 6, 19] ?_; refine vc_cond_t rfl ?_; refine vc_sr ?_; refine vco_build Tryz.underlying29 el121 rfl rfl rfl rfl rfl rfl rfl ?_; intro gb hgb; refine vco_st tbOk rfl el31 rfl rfl ?_; obtain ⟨ti, hti, htz⟩ := sz31; refine vco_bstore (.inl ⟨rfl, rfl⟩) rfl rfl rfl hti htz rfl rfl rfl ?_; refine vco_k [6] ?_; obtain ⟨ri0, rhi0, rhz0⟩ := sz31; refine vc_ret ⟨.inr rfl, _, .agg rfl Tryz.underlying31 rhi0 rhz0 (.nil), ?_⟩; exact ⟨hle.trans (Heap.le_ins _ hgb), by rw [hn0, frac_num0]; exact canV_zero natV_one⟩
 ·
  have hl0 : (limbs n).length ≠ 0 := fun e => by rw [limbs_len_zero] at e; omega
  rcases Nat.eq_zero_or_pos d with hd0 | hd0
  ·
   have hl0 := limbs_len_zero.2 hd0; refine vc_sr ?_; refine vr 2 ?_; refine vco_cmp false rfl rfl (ceq_f (by omega)) ?_; refine vr 3 ?_; refine vco_cmp true rfl rfl (ceq_t (by omega)) ?_; refine vr 1 ?_; refine vco_k [0, 1, 2, 6, 19] ?_; refine vc_cond_t rfl ?_; refine vc_sr ?_; refine vco_build Tryz.underlying29 el121 rfl rfl rfl rfl rfl rfl rfl ?_; intro gb hgb; refine vco_st tbOk rfl el31 rfl rfl ?_; obtain ⟨ti, hti, htz⟩ := sz31; refine vco_bstore (.inl ⟨rfl, rfl⟩) rfl rfl rfl hti htz rfl rfl rfl ?_; refine vco_k [6] ?_; obtain ⟨ri0, rhi0, rhz0⟩ := sz31; refine vc_ret ⟨.inr rfl, _, .agg rfl Tryz.underlying31 rhi0 rhz0 (.nil), ?_⟩; exact ⟨hle.trans (Heap.le_ins _ hgb), by rw [hd0, frac_den0]; exact canV_zero natV_one⟩
  ·
   have hl1 : (limbs d).length ≠ 0 := fun e => by rw [limbs_len_zero] at e; omega
   refine vc_sr ?_; refine vr 2 ?_; refine vco_cmp false rfl rfl (ceq_f (by omega)) ?_; refine vr 3 ?_; refine vco_cmp false rfl rfl (ceq_f (by omega)) ?_; refine vr 1 ?_; refine vco_k [0, 1, 2, 6, 19] ?_; refine vc_cond_f rfl ?_; refine vc_skip ?_; refine vc_keep [0, 1, 2, 6] rfl ?_; refine vc_sr ?_; refine vr 2 ?_; refine vco_call rfl rfl (natGcd_ok hn1 hn2 (by omega) (by omega)) ?_; rintro v3 H3 hp3; obtain ⟨g, hg⟩ : ∃ g, g = Nat.gcd n d := ⟨_, rfl⟩; rw [← hg] at hp3
   have hg0 : 0 < g := by rw [hg]; exact Nat.gcd_pos_of_pos_left _ hn0
   have hn3 := hp3.nat; have hgl := limbs_len_mono (show g ≤ n by rw [hg]; exact Nat.gcd_le_left _ hn0); have hn13 := hn1.le hp3.le; have hn23 := hn2.le hp3.le; obtain ⟨Ahn3, chn3, rfl, hchn3, hrhn3⟩ := id hn3; refine vr 1 ?_; refine vco_k [0, 1, 2, 6, 7] ?_; refine vc_cut2 (fun (u3 : Value) (v3 : Value) => put (put (put (put (emp) 0 (.val (.bool f))) 1 (.val (u3))) 2 (.val (v3))) 6 (.box [.bool false, .slice none 0 0, .slice none 0 0])) (fun (u3 : Value) (v3 : Value) H' => Heap.le H H' ∧ NatV H' u3 (n / g) ∧ NatV H' v3 (d / g)) ?_ ?_
   ·
    by_cases hl : (limbs g).length = 1
    ·
     obtain ⟨z, hz⟩ := List.length_eq_one_iff.1 hl
     have hzg : z = g := by have := val_limbs g; rw [hz] at this; simpa [val] using this
     have hgz : (limbs g)[0]? = some g := by rw [hz, hzg]; rfl
     refine vc_sr ?_; refine vr 2 ?_; refine vco_cmp false rfl rfl (cne_f (by omega)) ?_; refine vr 2 ?_; refine vco_at tbOk rfl rfl rfl rfl rfl (hrhn3) (U_get hgz) (by omega) (by omega) fun _ => ?_; refine vr 2 ?_; refine vco_k [0, 1, 2, 6, 7, 33] ?_; refine vc_cond rfl (fun hb => ?_) (fun hb => ?_)
     ·
      skip
      refine vc_sr ?_; refine vr 2 ?_; refine vco_call rfl rfl (natDiv_ok hn13 hn3 hg0 (by omega) (by omega)) ?_; rintro v4 H4 ⟨hl4, q4, r4, rfl, hq4, hr4⟩; refine vr 4 ?_; refine vco_k [0, 1, 2, 6, 7] ?_; refine vc_region rfl ?_; refine vr 2 ?_; refine vco_call rfl rfl (natDiv_ok (hn23.le hl4) (hn3.le hl4) hg0 (by omega) (by omega)) ?_; rintro v5 H5 ⟨hl5, q5, r5, rfl, hq5, hr5⟩; refine vr 4 ?_; refine vco_end ?_; exact ⟨_, _, sub_auto, (hle.trans hp3.le).trans (hl4.trans hl5), hq4.le hl5, hq5⟩
     ·
      have hg1 : g = 1 := by simp at hb; omega
      refine vc_skip ?_; exact ⟨_, _, sub_auto, hle.trans hp3.le, by rw [hg1, Nat.div_one]; exact hn13, by rw [hg1, Nat.div_one]; exact hn23⟩
    ·
     skip
     refine vc_sr ?_; refine vr 2 ?_; refine vco_cmp true rfl rfl (cne_t (by omega)) ?_; refine vr 6 ?_; refine vco_k [0, 1, 2, 6, 7, 33] ?_; refine vc_cond_t rfl ?_; refine vc_sr ?_; refine vr 2 ?_; refine vco_call rfl rfl (natDiv_ok hn13 hn3 hg0 (by omega) (by omega)) ?_; rintro v4 H4 ⟨hl4, q4, r4, rfl, hq4, hr4⟩; refine vr 4 ?_; refine vco_k [0, 1, 2, 6, 7] ?_; refine vc_region rfl ?_; refine vr 2 ?_; refine vco_call rfl rfl (natDiv_ok (hn23.le hl4) (hn3.le hl4) hg0 (by omega) (by omega)) ?_; rintro v5 H5 ⟨hl5, q5, r5, rfl, hq5, hr5⟩; refine vr 4 ?_; refine vco_end ?_; exact ⟨_, _, sub_auto, (hle.trans hp3.le).trans (hl4.trans hl5), hq4.le hl5, hq5⟩
   ·
    rintro u3 v3 H6 ⟨hle6, hu6, hv6⟩; obtain ⟨Ahu6, chu6, rfl, hchu6, hrhu6⟩ := id hu6; obtain ⟨Ahv6, chv6, rfl, hchv6, hrhv6⟩ := id hv6; refine vc_sr ?_; refine vr 3 ?_; refine vco_st tbOk rfl el31 rfl rfl ?_; obtain ⟨ti, hti, htz⟩ := sz31; refine vco_bstore (.inl ⟨rfl, rfl⟩) rfl rfl rfl hti htz rfl rfl rfl ?_; refine vco_k [6] ?_; obtain ⟨ri0, rhi0, rhz0⟩ := sz31; refine vc_ret ⟨.inr rfl, _, .agg rfl Tryz.underlying31 rhi0 rhz0 (.nil), ?_⟩; exact ⟨hle6, canV_frac hn0 hd0 (by rw [← hg]; exact hu6) (by rw [← hg]; exact hv6)⟩
theorem rFromInt_ok {H : Heap} {n : Int} (h1 : -9223372036854775808 ≤ n) (h2 : n ≤ 9223372036854775807) :
  Fn Tryz.prog 20 #[.int .i64 n] H (RetQ H (n : Rat)) := by
 have hl3 : (limbs n.natAbs).length ≤ 3 := limbs_len_le.2 (by rw [B_eq]; omega)
 have hfi := frac_int n
 have h11 : val (limbs 1) = 1 := val_limbs 1
 have hl1 : (limbs 1).length = 1 := by rw [limbs_one]; rfl
 refine fn_intro (args := [_]) Tryz.func20 rfl rfl Tryz.ntmps20 rfl rfl fun w0 => ?_; refine vc_keep [0] rfl ?_; refine vc_sr ?_; refine vco_alloc el31 rfl ?_; refine vco_k [0, 2] ?_; refine vc_seq ?_; refine vc_sr ?_; refine vr 2 ?_; refine vco_k [0, 2, 4] ?_; refine vc_cond rfl (fun hb => ?_) (fun hb => ?_)
 ·
  have hb : n < 0 := by simpa using hb
  rw [decide_eq_true hb] at hfi; refine vc_sr ?_; refine vr 1 ?_; refine vco_add rfl rfl ⟨by omega, by omega⟩ ?_; refine vco_neg rfl ⟨by omega, by omega⟩ ?_; refine vco_conv tbOk rfl rfl rfl ⟨by omega, by omega⟩ ?_; refine vco_add rfl rfl ⟨by omega, by omega⟩ ?_; rw [show -(n + 1) + 1 = ((n.natAbs : Nat) : Int) by omega]; refine vco_call rfl rfl (limbs_ok (by omega)) ?_; rintro v1 H1 hp1; refine vco_build Tryz.underlying29 el121 rfl rfl rfl rfl rfl rfl rfl ?_; intro gb hgb; refine vco_call rfl rfl (build_ok (hp1.nat.le (Heap.le_ins _ hgb)) (natV_one).l32 lt32 lt32 (by omega) (by omega)) ?_; rintro w2 G2 ⟨hlg2, hq2⟩; rw [val_limbs, h11, hfi] at hq2; obtain ⟨u2, x2, rfl, hu2, hx2⟩ := id hq2; obtain ⟨Ahu2, chu2, rfl, hchu2, hrhu2⟩ := id hu2; obtain ⟨Ahx2, chx2, rfl, hchx2, hrhx2⟩ := id hx2; obtain ⟨ti, hti, htz⟩ := sz31; refine vco_bstore (.inl ⟨rfl, rfl⟩) rfl rfl rfl hti htz rfl rfl rfl ?_; refine vco_k [2] ?_; obtain ⟨ri0, rhi0, rhz0⟩ := sz31; refine vc_ret ⟨.inr rfl, _, .agg rfl Tryz.underlying31 rhi0 rhz0 (.nil), ?_⟩; exact ⟨(hp1.le.trans (Heap.le_ins _ hgb)).trans hlg2, hq2⟩
 ·
  have hb : ¬ n < 0 := by simpa using hb
  rw [decide_eq_false hb] at hfi; obtain ⟨m, rfl⟩ : ∃ m : Nat, n = (m : Int) := ⟨n.natAbs, by omega⟩; rw [Int.natAbs_natCast] at hfi hl3; refine vc_skip ?_; refine vc_keep [0, 2] rfl ?_; refine vc_sr ?_; refine vr 1 ?_; refine vco_conv tbOk rfl rfl rfl ⟨by omega, by omega⟩ ?_; refine vco_call rfl rfl (limbs_ok (x := m) (by omega)) ?_; rintro v1 H1 hp1; refine vco_build Tryz.underlying29 el121 rfl rfl rfl rfl rfl rfl rfl ?_; intro gb hgb; refine vco_call rfl rfl (build_ok (hp1.nat.le (Heap.le_ins _ hgb)) (natV_one).l32 lt32 lt32 (by omega) (by omega)) ?_; rintro w2 G2 ⟨hlg2, hq2⟩; rw [val_limbs, h11, hfi] at hq2; obtain ⟨u2, x2, rfl, hu2, hx2⟩ := id hq2; obtain ⟨Ahu2, chu2, rfl, hchu2, hrhu2⟩ := id hu2; obtain ⟨Ahx2, chx2, rfl, hchx2, hrhx2⟩ := id hx2; obtain ⟨ti, hti, htz⟩ := sz31; refine vco_bstore (.inl ⟨rfl, rfl⟩) rfl rfl rfl hti htz rfl rfl rfl ?_; refine vco_k [2] ?_; obtain ⟨ri0, rhi0, rhz0⟩ := sz31; refine vc_ret ⟨.inr rfl, _, .agg rfl Tryz.underlying31 rhi0 rhz0 (.nil), ?_⟩; exact ⟨(hp1.le.trans (Heap.le_ins _ hgb)).trans hlg2, hq2⟩
theorem rCanonical_ok {H : Heap} {v : Value} {q : Rat} {N : Nat} (hv : RawV H v q N) (hN : (N : Int) ≤ 4398046511000) :
  Fn Tryz.prog 77 #[v] H (RetQ H q) := by
 obtain ⟨bf, bu, bw, bl1, bl2, rfl, hb1, hb2, hb3, hb4, hb5, hb6, rfl⟩ := id hv; refine fn_intro (args := [_]) Tryz.func77 rfl rfl Tryz.ntmps77 rfl rfl fun w0 => ?_; refine vc_keep [0] rfl ?_; refine vc_sr ?_; refine vco_box rfl rfl ?_; refine vco_alloc el31 rfl ?_; refine vco_k [1, 2] ?_; refine vc_sr ?_; refine vr 6 ?_; refine vco_call rfl rfl (build_ok hb1 hb2 hb3 hb4 (by omega) (by omega)) ?_; rintro w2 G2 ⟨hlg2, hq2⟩; obtain ⟨u2, x2, rfl, hu2, hx2⟩ := id hq2; obtain ⟨Ahu2, chu2, rfl, hchu2, hrhu2⟩ := id hu2; obtain ⟨Ahx2, chx2, rfl, hchx2, hrhx2⟩ := id hx2; obtain ⟨ti, hti, htz⟩ := sz31; refine vco_bstore (.inl ⟨rfl, rfl⟩) rfl rfl rfl hti htz rfl rfl rfl ?_; refine vco_k [2] ?_; obtain ⟨ri0, rhi0, rhz0⟩ := sz31; refine vc_ret ⟨.inr rfl, _, .agg rfl Tryz.underlying31 rhi0 rhz0 (.nil), ?_⟩; exact ⟨hlg2, hq2⟩
theorem rSign_ok {H : Heap} {v : Value} {q : Rat} {N : Nat} (hv : RawV H v q N) (hN : (N : Int) ≤ 4398046511000) :
  Fn Tryz.prog 67 #[v] H (fun v H' => Heap.le H H' ∧ v = .int .i64 (sgnQ q)) := by
 obtain ⟨bf, bu, bw, bl1, bl2, rfl, _⟩ := id hv
 have hsg := sgn_num q; refine fn_intro (args := [_]) Tryz.func67 rfl rfl Tryz.ntmps67 rfl rfl fun w0 => ?_; refine vc_keep [0] rfl ?_; refine vc_sr ?_; refine vco_box rfl rfl ?_; refine vr 1 ?_; refine vco_k [1] ?_; refine vc_sr ?_; refine vr 1 ?_; refine vco_call rfl rfl (rCanonical_ok hv hN) ?_; rintro w2 G2 ⟨hlg2, hq2⟩; obtain ⟨u2, x2, rfl, hu2, hx2⟩ := id hq2; obtain ⟨Ahu2, chu2, rfl, hchu2, hrhu2⟩ := id hu2; obtain ⟨Ahx2, chx2, rfl, hchx2, hrhx2⟩ := id hx2; obtain ⟨ti, hti, htz⟩ := sz31; refine vco_bstore (.inl ⟨rfl, rfl⟩) rfl rfl rfl hti htz rfl rfl rfl ?_; refine vco_k [1] ?_; refine vc_seq ?_; refine vc_block ?_; refine vc_sr ?_; refine vr 5 ?_; refine vco_k [1, 5] ?_; refine vc_cond rfl (fun hb => ?_) (fun hb => ?_)
 ·
  have hb : q.num.natAbs = 0 := limbs_len_zero.1 (by have := eq_of_beq hb; omega); rw [if_pos hb] at hsg; refine vc_sr ?_; refine vr 1 ?_; refine vco_k [2] ?_; refine vc_ret ⟨.inr rfl, _, .tmp rfl (.nil), ?_⟩; exact ⟨hlg2, by rw [hsg]; rfl⟩
 ·
  have hb : q.num.natAbs ≠ 0 := fun e => by rw [limbs_len_zero.2 e] at hb; simp at hb
  rw [if_neg hb] at hsg; refine vc_sr ?_; refine vr 3 ?_; refine vco_k [10] ?_; refine vc_cond rfl (fun hb => ?_) (fun hb => ?_)
  ·
   rw [hb] at hsg; refine vc_sr ?_; refine vr 1 ?_; refine vco_k [2] ?_; refine vc_ret ⟨.inr rfl, _, .tmp rfl (.nil), ?_⟩; exact ⟨hlg2, by rw [hsg]; rfl⟩
  ·
   rw [hb] at hsg; refine vc_skip ?_; refine vc_keep [] rfl ?_; refine vc_sr ?_; refine vr 1 ?_; refine vco_k [2] ?_; refine vc_ret ⟨.inr rfl, _, .tmp rfl (.nil), ?_⟩; exact ⟨hlg2, by rw [hsg]; rfl⟩
theorem rNeg_ok {H : Heap} {v : Value} {q : Rat} {N : Nat} (hv : RawV H v q N) (hN : (N : Int) ≤ 4398046511000) :
  Fn Tryz.prog 135 #[v] H (RetQ H (-q)) := by
 obtain ⟨bf, bu, bw, bl1, bl2, rfl, hb1, hb2, hb3, hb4, hb5, hb6, rfl⟩ := id hv; refine fn_intro (args := [_]) Tryz.func135 rfl rfl Tryz.ntmps135 rfl rfl fun w0 => ?_; refine vc_keep [0] rfl ?_; refine vc_sr ?_; refine vco_box rfl rfl ?_; refine vco_alloc el31 rfl ?_; refine vco_k [1, 2] ?_; refine vc_sr ?_; refine vr 7 ?_; refine vco_call rfl rfl (build_ok (f := !bf) hb1 hb2 hb3 hb4 (by omega) (by omega)) ?_; rintro w2 G2 ⟨hlg2, hq2⟩; rw [← frac_neg] at hq2; obtain ⟨u2, x2, rfl, hu2, hx2⟩ := id hq2; obtain ⟨Ahu2, chu2, rfl, hchu2, hrhu2⟩ := id hu2; obtain ⟨Ahx2, chx2, rfl, hchx2, hrhx2⟩ := id hx2; obtain ⟨ti, hti, htz⟩ := sz31; refine vco_bstore (.inl ⟨rfl, rfl⟩) rfl rfl rfl hti htz rfl rfl rfl ?_; refine vco_k [2] ?_; obtain ⟨ri0, rhi0, rhz0⟩ := sz31; refine vc_ret ⟨.inr rfl, _, .agg rfl Tryz.underlying31 rhi0 rhz0 (.nil), ?_⟩; exact ⟨hlg2, hq2⟩
theorem rAdd_ok {H : Heap} {v v2 : Value} {q q2 : Rat} {N : Nat} (hv : RawV H v q N) (hv2 : RawV H v2 q2 N) (hN : (N : Int) ≤ 1099511627780) :
  Fn Tryz.prog 21 #[v, v2] H (RetQ H (q + q2)) := by
 obtain ⟨bf, bu, bw, bl1, bl2, rfl, _⟩ := id hv
 obtain ⟨cf, cu, cw, cl1, cl2, rfl, _⟩ := id hv2
 have hq0 := hv.size
 have hq20 := hv2.size
 have hd1 := Nat.pos_of_ne_zero q.den_nz
 have hd2 := Nat.pos_of_ne_zero q2.den_nz
 have hfs1 := frac_self q
 have hfs2 := frac_self q2
 obtain ⟨f1, hf1⟩ : ∃ f1, f1 = decide (q.num < 0) := ⟨_, rfl⟩
 obtain ⟨f2, hf2⟩ : ∃ f2, f2 = decide (q2.num < 0) := ⟨_, rfl⟩
 obtain ⟨n1, hn1⟩ : ∃ n1, n1 = q.num.natAbs := ⟨_, rfl⟩
 obtain ⟨n2, hn2⟩ : ∃ n2, n2 = q2.num.natAbs := ⟨_, rfl⟩
 obtain ⟨d1, hd1'⟩ : ∃ d1, d1 = q.den := ⟨_, rfl⟩
 obtain ⟨d2, hd2'⟩ : ∃ d2, d2 = q2.den := ⟨_, rfl⟩
 have hz : (limbs n1).length ≤ N + 2 ∧ (limbs d1).length ≤ N + 2 ∧ (limbs n2).length ≤ N + 2 ∧ (limbs d2).length ≤ N + 2 := by
  unfold szQ at hq0 hq20
  rw [hn1, hn2, hd1', hd2']; omega
 rw [← hf1, ← hn1, ← hd1'] at hfs1
 rw [← hf2, ← hn2, ← hd2'] at hfs2
 rw [← hd1'] at hd1
 rw [← hd2'] at hd2
 have hm1 := len_mul n1 d2
 have hm2 := len_mul n2 d1
 have hm3 := len_mul d1 d2
 have hde := Nat.mul_pos hd1 hd2
 have hs1 := len_add (x := n1 * d2) (y := n2 * d1) (k := 2 * (N + 2)) (by omega) (by omega); refine fn_intro (args := [_, _]) Tryz.func21 rfl rfl Tryz.ntmps21 rfl rfl fun w0 => ?_; refine vc_keep [0, 1] rfl ?_; refine vc_sr ?_; refine vco_box rfl rfl ?_; refine vco_box rfl rfl ?_; refine vco_alloc el31 rfl ?_; refine vco_k [2, 3, 4] ?_; refine vc_sd .drawB [0, 2, 1, 3, 4, 5] follows (by kernel_rfl) ?_; refine vr 2 ?_; refine vco_callM rfl rfl (rCanonical_ok hv (by omega)) (fun _ _ h => by first | exact h.le | exact h.1) ?_; rintro w1 G1 ⟨hl1, hcan1⟩
 unfold CanV at hcan1
 rw [← hf1, ← hn1, ← hd1'] at hcan1; obtain ⟨un1, ud1, rfl, hun1, hud1⟩ := id hcan1; obtain ⟨Ahun1, chun1, rfl, hchun1, hrhun1⟩ := id hun1; obtain ⟨Ahud1, chud1, rfl, hchud1, hrhud1⟩ := id hud1; refine vco_callM rfl rfl (rCanonical_ok (hv2.le hl1) (by omega)) (fun _ _ h => by first | exact h.le | exact h.1) ?_; rintro w2 G2 ⟨hl2, hcan2⟩
 unfold CanV at hcan2
 rw [← hf2, ← hn2, ← hd2'] at hcan2; obtain ⟨un2, ud2, rfl, hun2, hud2⟩ := id hcan2; obtain ⟨Ahun2, chun2, rfl, hchun2, hrhun2⟩ := id hun2; obtain ⟨Ahud2, chud2, rfl, hchud2, hrhud2⟩ := id hud2; have hun1 := hun1.le hl2; have hud1 := hud1.le hl2; have hle := hl1.trans hl2; obtain ⟨ti, hti, htz⟩ := sz31; refine vco_bstore (.inl ⟨rfl, rfl⟩) rfl rfl rfl hti htz rfl rfl rfl ?_; obtain ⟨ti, hti, htz⟩ := sz31; refine vco_bstore (.inl ⟨rfl, rfl⟩) rfl rfl rfl hti htz rfl rfl rfl ?_; refine vco_k [2, 3, 4] ?_; refine vc_sd .drawB [0, 1, 2, 3, 5, 6, 7, 8, 4, 9, 10, 11] follows (by kernel_rfl) ?_; refine vr 8 ?_; refine vco_callM rfl rfl (natMul_ok hun1 hud2 (by omega) (by omega)) (fun _ _ h => by first | exact h.le | exact h.1) ?_; rintro v3 H3 hp3; refine vco_callM rfl rfl (natMul_ok (hun2.le hp3.le) (hud1.le hp3.le) (by omega) (by omega)) (fun _ _ h => by first | exact h.le | exact h.1) ?_; rintro v4 H4 hp4; refine vr 2 ?_; refine vco_k [2, 3, 4, 5, 6] ?_; refine vc_sr ?_; refine vr 4 ?_; refine vco_call rfl rfl (natMul_ok ((hud1.le hp3.le).le hp4.le) ((hud2.le hp3.le).le hp4.le) (by omega) (by omega)) ?_; rintro v5 H5 hp5; have hle5 := ((hle.trans hp3.le).trans hp4.le).trans hp5.le; have hx5 := (hp3.nat.le hp4.le).le hp5.le; have hy5 := hp4.nat.le hp5.le; have hz5 := hp5.nat; obtain ⟨Ahx5, chx5, rfl, hchx5, hrhx5⟩ := id hx5; obtain ⟨Ahy5, chy5, rfl, hchy5, hrhy5⟩ := id hy5; obtain ⟨Ahz5, chz5, rfl, hchz5, hrhz5⟩ := id hz5; refine vr 1 ?_
 refine vco_k [2, 3, 4, 5, 6, 7] ?_; refine vc_seq ?_; refine vc_sr ?_; refine vr 4 ?_; refine vco_eqb Tryz.underlying4 rfl rfl ?_; refine vco_k [2, 3, 4, 5, 6, 7, 31] ?_; refine vc_cond rfl (fun hb => ?_) (fun hb => ?_)
 ·
  have hfg : f1 = f2 := by simpa using hb
  refine vc_sd .drawB [0, 1, 2, 3, 5, 4, 6, 7] follows (by kernel_rfl) ?_; refine vr 5 ?_; refine vco_callM rfl rfl (natAdd_ok hx5 hy5 (by omega) (by omega)) (fun _ _ h => by first | exact h.le | exact h.1) ?_; rintro v6 H6 hp6; have hz6 := hz5.le hp6.le; have hx6 := hp6.nat; obtain ⟨Ahx6, chx6, rfl, hchx6, hrhx6⟩ := id hx6; refine vco_callM rfl rfl (build_ok (f := f1) hx6.l32 hz6.l32 lt32 lt32 (by omega) (by omega)) (fun _ _ h => by first | exact h.le | exact h.1) ?_; rintro w7 G7 ⟨hlg7, hq7⟩; rw [val_limbs, val_limbs, ← frac_add_same f1 hd1 hd2, hfs1, hfg, hfs2] at hq7; obtain ⟨u7, x7, rfl, hu7, hx7⟩ := id hq7; obtain ⟨Ahu7, chu7, rfl, hchu7, hrhu7⟩ := id hu7; obtain ⟨Ahx7, chx7, rfl, hchx7, hrhx7⟩ := id hx7; obtain ⟨ti, hti, htz⟩ := sz31; refine vco_bstore (.inl ⟨rfl, rfl⟩) rfl rfl rfl hti htz rfl rfl rfl ?_; refine vco_k [4] ?_; obtain ⟨ri0, rhi0, rhz0⟩ := sz31; refine vc_ret ⟨.inr rfl, _, .agg rfl Tryz.underlying31 rhi0 rhz0 (.nil), ?_⟩; exact ⟨(hle5.trans hp6.le).trans hlg7, hq7⟩
 ·
  have hfg : f1 ≠ f2 := by simpa using hb
  refine vc_skip ?_; refine vc_keep [2, 3, 4, 5, 6, 7] rfl ?_; refine vc_seq ?_; refine vc_sr ?_; refine vr 2 ?_; refine vco_call rfl rfl (natCmp_ok hx5 hy5 (by omega)) ?_; rintro v6 H6 ⟨e6, rfl⟩; rw [e6]; refine vr 1 ?_; refine vco_k [2, 3, 4, 5, 6, 7, 42] ?_; refine vc_cond rfl (fun hb => ?_) (fun hb => ?_)
  ·
   have hb : n2 * d1 ≤ n1 * d2 := cmpN_ge0.1 (by simpa using hb); have hs2 := limbs_len_mono (Nat.sub_le (n1 * d2) (n2 * d1)); refine vc_sd .drawB [0, 1, 2, 3, 5, 4, 6, 7] follows (by kernel_rfl) ?_; refine vr 5 ?_; refine vco_callM rfl rfl (natSub_ok hx5 hy5 hb (by omega)) (fun _ _ h => by first | exact h.le | exact h.1) ?_; rintro v6 H6 hp6; have hz6 := hz5.le hp6.le; have hx6 := hp6.nat; obtain ⟨Ahx6, chx6, rfl, hchx6, hrhx6⟩ := id hx6; refine vco_callM rfl rfl (build_ok (f := f1) hx6.l32 hz6.l32 lt32 lt32 (by omega) (by omega)) (fun _ _ h => by first | exact h.le | exact h.1) ?_; rintro w7 G7 ⟨hlg7, hq7⟩; rw [val_limbs, val_limbs, ← frac_add_ge hfg hd1 hd2 hb, hfs1, hfs2] at hq7; obtain ⟨u7, x7, rfl, hu7, hx7⟩ := id hq7; obtain ⟨Ahu7, chu7, rfl, hchu7, hrhu7⟩ := id hu7; obtain ⟨Ahx7, chx7, rfl, hchx7, hrhx7⟩ := id hx7; obtain ⟨ti, hti, htz⟩ := sz31; refine vco_bstore (.inl ⟨rfl, rfl⟩) rfl rfl rfl hti htz rfl rfl rfl ?_; refine vco_k [4] ?_; obtain ⟨ri0, rhi0, rhz0⟩ := sz31; refine vc_ret ⟨.inr rfl, _, .agg rfl Tryz.underlying31 rhi0 rhz0 (.nil), ?_⟩; exact ⟨(hle5.trans hp6.le).trans hlg7, hq7⟩
  ·
   have hb : n1 * d2 ≤ n2 * d1 := by
    have : ¬ 0 ≤ cmpN (n1 * d2) (n2 * d1) := by simp at hb; omega
    rw [cmpN_ge0] at this; omega
   have hs2 := limbs_len_mono (Nat.sub_le (n2 * d1) (n1 * d2)); refine vc_skip ?_; refine vc_keep [3, 4, 5, 6, 7] rfl ?_; refine vc_sd .drawB [0, 1, 2, 3, 5, 4, 6, 7] follows (by kernel_rfl) ?_; refine vr 5 ?_; refine vco_callM rfl rfl (natSub_ok hy5 hx5 hb (by omega)) (fun _ _ h => by first | exact h.le | exact h.1) ?_; rintro v6 H6 hp6; have hz6 := hz5.le hp6.le; have hx6 := hp6.nat; obtain ⟨Ahx6, chx6, rfl, hchx6, hrhx6⟩ := id hx6; refine vco_callM rfl rfl (build_ok (f := f2) hx6.l32 hz6.l32 lt32 lt32 (by omega) (by omega)) (fun _ _ h => by first | exact h.le | exact h.1) ?_; rintro w7 G7 ⟨hlg7, hq7⟩; rw [val_limbs, val_limbs, ← frac_add_lt hfg hd1 hd2 hb, hfs1, hfs2] at hq7; obtain ⟨u7, x7, rfl, hu7, hx7⟩ := id hq7; obtain ⟨Ahu7, chu7, rfl, hchu7, hrhu7⟩ := id hu7; obtain ⟨Ahx7, chx7, rfl, hchx7, hrhx7⟩ := id hx7; obtain ⟨ti, hti, htz⟩ := sz31; refine vco_bstore (.inl ⟨rfl, rfl⟩) rfl rfl rfl hti htz rfl rfl rfl ?_; refine vco_k [4] ?_; obtain ⟨ri0, rhi0, rhz0⟩ := sz31; refine vc_ret ⟨.inr rfl, _, .agg rfl Tryz.underlying31 rhi0 rhz0 (.nil), ?_⟩; exact ⟨(hle5.trans hp6.le).trans hlg7, hq7⟩
theorem rSub_ok {H : Heap} {v v2 : Value} {q q2 : Rat} {N : Nat} (hv : RawV H v q N) (hv2 : RawV H v2 q2 N) (hN : (N : Int) ≤ 1099511627778) :
  Fn Tryz.prog 65 #[v, v2] H (RetQ H (q - q2)) := by
 obtain ⟨bf, bu, bw, bl1, bl2, rfl, _⟩ := id hv
 obtain ⟨cf, cu, cw, cl1, cl2, rfl, _⟩ := id hv2
 have hq20 := hv2.size; refine fn_intro (args := [_, _]) Tryz.func65 rfl rfl Tryz.ntmps65 rfl rfl fun w0 => ?_; refine vc_keep [0, 1] rfl ?_; refine vc_sr ?_; refine vco_box rfl rfl ?_; refine vco_box rfl rfl ?_; refine vco_alloc el31 rfl ?_; refine vco_k [2, 3, 4] ?_; refine vc_sd .drawB [0, 1, 2, 3, 4] follows (by kernel_rfl) ?_; refine vr 2 ?_; refine vco_callM rfl rfl (rNeg_ok hv2 (by omega)) (fun _ _ h => by first | exact h.le | exact h.1) ?_; rintro w2 G2 ⟨hlg2, hq2⟩; obtain ⟨u2, x2, rfl, hu2, hx2⟩ := id hq2; obtain ⟨Ahu2, chu2, rfl, hchu2, hrhu2⟩ := id hu2; obtain ⟨Ahx2, chx2, rfl, hchx2, hrhx2⟩ := id hx2; have hr2 := hq2.raw; rw [show szQ (-q2) = szQ q2 by unfold szQ; rw [Rat.neg_num, Int.natAbs_neg, Rat.neg_den]] at hr2; refine vco_callM rfl rfl (rAdd_ok (N := N + 2) ((hv.le hlg2).mono (by omega)) (hr2.mono hq20) (by omega)) (fun _ _ h => by first | exact h.le | exact h.1) ?_; rintro w3 G3 ⟨hlg3, hq3⟩; rw [← Rat.sub_eq_add_neg] at hq3; obtain ⟨u3, x3, rfl, hu3, hx3⟩ := id hq3; obtain ⟨Ahu3, chu3, rfl, hchu3, hrhu3⟩ := id hu3; obtain ⟨Ahx3, chx3, rfl, hchx3, hrhx3⟩ := id hx3; obtain ⟨ti, hti, htz⟩ := sz31; refine vco_bstore (.inl ⟨rfl, rfl⟩) rfl rfl rfl hti htz rfl rfl rfl ?_; refine vco_k [4] ?_; obtain ⟨ri0, rhi0, rhz0⟩ := sz31; refine vc_ret ⟨.inr rfl, _, .agg rfl Tryz.underlying31 rhi0 rhz0 (.nil), ?_⟩; exact ⟨hlg2.trans hlg3, hq3⟩
theorem rCmp_ok {H : Heap} {v v2 : Value} {q q2 : Rat} {N : Nat} (hv : RawV H v q N) (hv2 : RawV H v2 q2 N) (hN : (N : Int) ≤ 1099511627776) :
  Fn Tryz.prog 14 #[v, v2] H (fun v H' => Heap.le H H' ∧ v = .int .i64 (cmpQ q q2)) := by
 obtain ⟨bf, bu, bw, bl1, bl2, rfl, _⟩ := id hv
 obtain ⟨cf, cu, cw, cl1, cl2, rfl, _⟩ := id hv2
 have hq0 := hv.size
 have hq20 := hv2.size; refine fn_intro (args := [_, _]) Tryz.func14 rfl rfl Tryz.ntmps14 rfl rfl fun w0 => ?_; refine vc_keep [0, 1] rfl ?_; refine vc_sr ?_; refine vco_box rfl rfl ?_; refine vco_box rfl rfl ?_; refine vr 1 ?_; refine vco_k [2, 3] ?_; refine vc_sr ?_; refine vr 2 ?_; refine vco_call rfl rfl (rSub_ok hv hv2 (by omega)) ?_; rintro w2 G2 ⟨hlg2, hq2⟩; obtain ⟨u2, x2, rfl, hu2, hx2⟩ := id hq2; obtain ⟨Ahu2, chu2, rfl, hchu2, hrhu2⟩ := id hu2; obtain ⟨Ahx2, chx2, rfl, hchx2, hrhx2⟩ := id hx2; have hsz := szQ_sub q q2; refine vco_call rfl rfl (rSign_ok hq2.raw (by omega)) ?_; rintro v3 H3 ⟨hl3, rfl⟩; refine vr 1 ?_; refine vco_k [4] ?_; refine vc_ret ⟨.inr rfl, _, .tmp rfl (.nil), ?_⟩; exact ⟨hlg2.trans hl3, by rw [cmp_sub]; rfl⟩
theorem rMul_ok {H : Heap} {v v2 : Value} {q q2 : Rat} {N : Nat} (hv : RawV H v q N) (hv2 : RawV H v2 q2 N) (hN : (N : Int) ≤ 1099511627780) :
  Fn Tryz.prog 22 #[v, v2] H (RetQ H (q * q2)) := by
 obtain ⟨bf, bu, bw, bl1, bl2, rfl, _⟩ := id hv
 obtain ⟨cf, cu, cw, cl1, cl2, rfl, _⟩ := id hv2
 have hq0 := hv.size
 have hq20 := hv2.size
 have hd1 := Nat.pos_of_ne_zero q.den_nz
 have hd2 := Nat.pos_of_ne_zero q2.den_nz
 have hfs1 := frac_self q
 have hfs2 := frac_self q2
 obtain ⟨f1, hf1⟩ : ∃ f1, f1 = decide (q.num < 0) := ⟨_, rfl⟩
 obtain ⟨f2, hf2⟩ : ∃ f2, f2 = decide (q2.num < 0) := ⟨_, rfl⟩
 obtain ⟨n1, hn1⟩ : ∃ n1, n1 = q.num.natAbs := ⟨_, rfl⟩
 obtain ⟨n2, hn2⟩ : ∃ n2, n2 = q2.num.natAbs := ⟨_, rfl⟩
 obtain ⟨d1, hd1'⟩ : ∃ d1, d1 = q.den := ⟨_, rfl⟩
 obtain ⟨d2, hd2'⟩ : ∃ d2, d2 = q2.den := ⟨_, rfl⟩
 have hz : (limbs n1).length ≤ N + 2 ∧ (limbs d1).length ≤ N + 2 ∧ (limbs n2).length ≤ N + 2 ∧ (limbs d2).length ≤ N + 2 := by
  unfold szQ at hq0 hq20
  rw [hn1, hn2, hd1', hd2']; omega
 rw [← hf1, ← hn1, ← hd1'] at hfs1
 rw [← hf2, ← hn2, ← hd2'] at hfs2
 rw [← hd1'] at hd1
 rw [← hd2'] at hd2
 have hm1 := len_mul n1 n2
 have hm2 := len_mul d1 d2; refine fn_intro (args := [_, _]) Tryz.func22 rfl rfl Tryz.ntmps22 rfl rfl fun w0 => ?_; refine vc_keep [0, 1] rfl ?_; refine vc_sr ?_; refine vco_box rfl rfl ?_; refine vco_box rfl rfl ?_; refine vco_alloc el31 rfl ?_; refine vco_k [2, 3, 4] ?_; refine vc_sd .drawB [0, 2, 1, 3, 4, 5] follows (by kernel_rfl) ?_; refine vr 2 ?_; refine vco_callM rfl rfl (rCanonical_ok hv (by omega)) (fun _ _ h => by first | exact h.le | exact h.1) ?_; rintro w1 G1 ⟨hl1, hcan1⟩
 unfold CanV at hcan1
 rw [← hf1, ← hn1, ← hd1'] at hcan1; obtain ⟨un1, ud1, rfl, hun1, hud1⟩ := id hcan1; obtain ⟨Ahun1, chun1, rfl, hchun1, hrhun1⟩ := id hun1; obtain ⟨Ahud1, chud1, rfl, hchud1, hrhud1⟩ := id hud1; refine vco_callM rfl rfl (rCanonical_ok (hv2.le hl1) (by omega)) (fun _ _ h => by first | exact h.le | exact h.1) ?_; rintro w2 G2 ⟨hl2, hcan2⟩
 unfold CanV at hcan2
 rw [← hf2, ← hn2, ← hd2'] at hcan2; obtain ⟨un2, ud2, rfl, hun2, hud2⟩ := id hcan2; obtain ⟨Ahun2, chun2, rfl, hchun2, hrhun2⟩ := id hun2; obtain ⟨Ahud2, chud2, rfl, hchud2, hrhud2⟩ := id hud2; have hun1 := hun1.le hl2; have hud1 := hud1.le hl2; have hle := hl1.trans hl2; obtain ⟨ti, hti, htz⟩ := sz31; refine vco_bstore (.inl ⟨rfl, rfl⟩) rfl rfl rfl hti htz rfl rfl rfl ?_; obtain ⟨ti, hti, htz⟩ := sz31; refine vco_bstore (.inl ⟨rfl, rfl⟩) rfl rfl rfl hti htz rfl rfl rfl ?_; refine vco_k [2, 3, 4] ?_; refine vc_sd .drawB [0, 1, 2, 3, 4, 5, 6, 7, 8, 10, 11, 12, 13, 9, 14, 15, 16] follows (by kernel_rfl) ?_; refine vr 4 ?_; refine vco_neb Tryz.underlying4 rfl rfl ?_; refine vr 8 ?_; refine vco_callM rfl rfl (natMul_ok hun1 hun2 (by omega) (by omega)) (fun _ _ h => by first | exact h.le | exact h.1) ?_; rintro v3 H3 hp3; refine vco_callM rfl rfl (natMul_ok (hud1.le hp3.le) (hud2.le hp3.le) (by omega) (by omega)) (fun _ _ h => by first | exact h.le | exact h.1) ?_; rintro v4 H4 hp4; have hx4 := hp3.nat.le hp4.le; have hy4 := hp4.nat; obtain ⟨Ahx4, chx4, rfl, hchx4, hrhx4⟩ := id hx4; obtain ⟨Ahy4, chy4, rfl, hchy4, hrhy4⟩ := id hy4; refine vco_callM rfl rfl (build_ok (f := f1 != f2) hx4.l32 hy4.l32 lt32 lt32 (by omega) (by omega)) (fun _ _ h => by first | exact h.le | exact h.1) ?_; rintro w5 G5 ⟨hlg5, hq5⟩; rw [val_limbs, val_limbs, ← frac_mul, hfs1, hfs2] at hq5; obtain ⟨u5, x5, rfl, hu5, hx5⟩ := id hq5; obtain ⟨Ahu5, chu5, rfl, hchu5, hrhu5⟩ := id hu5
 obtain ⟨Ahx5, chx5, rfl, hchx5, hrhx5⟩ := id hx5; obtain ⟨ti, hti, htz⟩ := sz31; refine vco_bstore (.inl ⟨rfl, rfl⟩) rfl rfl rfl hti htz rfl rfl rfl ?_; refine vco_k [4] ?_; obtain ⟨ri0, rhi0, rhz0⟩ := sz31; refine vc_ret ⟨.inr rfl, _, .agg rfl Tryz.underlying31 rhi0 rhz0 (.nil), ?_⟩; exact ⟨((hle.trans hp3.le).trans hp4.le).trans hlg5, hq5⟩
end Go.Eng
/- Walks over package simplex, tableau.go, part 9: row. -/
namespace Go.Eng
open Go.Proofs Num Lp
theorem rwk_succ (L : TL) (a : Nat → Rat) (sg : Rat) (k : Nat) : rwk L a sg (k + 1) = if 0 ≤ L.mZ k then upd (upd (rwk L a sg k) (L.pF k) (a k * sg)) (L.mZ k).toNat (-(a k * sg)) else upd (rwk L a sg k) (L.pF k) (a k * sg) := rfl
theorem row_ok {H : Heap} {g : Nat} {ts : List Value} {pv mv : Value} {L : TL} {n N : Nat} {vs ss : List Value} {r : List Rat × Int × Rat} {slack : Int} {unit : Nat} {sg : Rat}
  (hg : H g = some ⟨ts, 9, 97, true⟩) (ht0 : ts[0]? = some (.int .i64 (L.w : Int))) (ht2 : ts[2]? = some pv) (ht3 : ts[3]? = some mv) (hpv : SlV NatP 1 (rem H [g]) pv L.plus) (hmv : SlV IntP 1 (rem H [g]) mv L.minus)
  (hr : RowP N (rem H [g]) vs r) (hs : NumV (rem H [g]) ss sg) (hs1 : szQ sg ≤ 1) (hn : r.1.length = n) (hpl : L.plus.length = n) (hml : L.minus.length = n) (hpw : ∀ j, j < n → L.pF j < L.w) (hmw : ∀ j, j < n → L.mZ j < L.w)
  (hsl : r.2.1 ≠ 2 → 0 ≤ slack ∧ slack < L.w) (hun : unit < L.w) (hN : (N : Int) ≤ 549755813888) (hw : (L.w : Int) ≤ 1000000) (hnn : (n : Int) ≤ 1000000) :
  Fn Tryz.prog 124 #[.pointer (some ⟨g, 0, none⟩), .agg vs.toArray, .agg ss.toArray, .int .i64 slack, .int .i64 (unit : Int)] H (fun v H' => Heap.le H H' ∧ ∃ z xs, v = .slice (some ⟨z, 0, none⟩) (L.w + 1) (L.w + 1) ∧ Work [g] H H' z xs ((L.w + 1) * 3) 90 ∧ Els (NumV (rem H' (z :: [g]))) 3 xs (vals (rowF L n (fn r.1) r.2.2 r.2.1 slack unit sg) (L.w + 1))) := by
 obtain ⟨ns, ds, bs, rfl⟩ := hs.cells
 obtain ⟨Ac, cc, kk, f, A1, m1, c1, A2, m2, c2, rfl, rfl⟩ := hr.cells
 obtain ⟨c', f', u', w', hvs, hco, hbd⟩ := id hr
 simp only [List.cons.injEq, Value.bool.injEq, and_true, true_and] at hvs
 obtain ⟨rfl, rfl, rfl, rfl⟩ := hvs
 have hne : ∀ q, q ∈ [g] → H q ≠ none := fun q hq => by rw [List.mem_singleton.1 hq, hg]; simp
 obtain ⟨Ap, cp, xp, rfl, hrp, hxp⟩ := hpv.one
 obtain ⟨Am, cm, xm, rfl, hrm, hxm⟩ := hmv.one
 rw [hpl] at ht2
 rw [hml] at ht3
 have hgE : ∀ {H' : Heap} {z : Nat} {xs : List Value} {s e : Nat}, Work [g] H H' z xs s e → H' g = some ⟨ts, 9, 97, true⟩ := fun hwk => (hwk.same g (List.mem_singleton.2 rfl)).trans hg
 have hcl : ∀ {H' : Heap} {k : Nat} {v : Value}, H' g = some ⟨ts, 9, 97, true⟩ → ts[k]? = some v → cell H' ((⟨g, 0, none⟩ : Addr).add k) = some v := fun h1 h2 => by simp [cell, addr0, h1, h2]
 have hc00 : ∀ {H' : Heap}, H' g = some ⟨ts, 9, 97, true⟩ → cell H' (⟨g, 0, none⟩ : Addr) = some (.int .i64 (L.w : Int)) := fun h1 => by have := hcl (k := 0) h1 ht0; rwa [addr0] at this
 have hLp : ∀ j, j < n → L.plus[j]? = some (L.pF j) := fun j hj => by
  have : j < L.plus.length := by rw [hpl]; exact hj
  simp [TL.pF, List.getD, List.getElem?_eq_getElem this]
 have hLm : ∀ j, j < n → L.minus[j]? = some (L.mZ j) := fun j hj => by
  have : j < L.minus.length := by rw [hml]; exact hj
  simp [TL.mZ, List.getD, List.getElem?_eq_getElem this]
 refine fn_intro (args := [_, _, _, _, _]) Tryz.func124 rfl rfl Tryz.ntmps124 rfl rfl fun w0 => ?_; refine vc_keep [0, 1, 2, 3, 4] rfl ?_; refine vc_sr ?_; refine vco_box rfl rfl ?_; refine vco_box rfl rfl ?_; refine vr 1 ?_; refine vco_k [0, 3, 4, 6, 7] ?_; refine vc_sr ?_; refine vr 2 ?_; refine vco_hfld tbOk rfl rfl rfl ?_; refine vco_hload tbOk rfl rfl rfl (hc00 hg) ?_; refine vco_add rfl rfl ⟨by omega, by omega⟩ ?_; refine vco_call rfl rfl (zeros_fr (gs := [g]) (n := L.w + 1) hne (by omega)) ?_; rintro v1 H1 ⟨hl1, z, xs0, rfl, hwk1, hel1⟩; have hxl1 := (hel1 H).len; rw [vals_len] at hxl1; refine vr 1 ?_; refine vco_k [0, 3, 4, 6, 7, 11] ?_; refine vc_seq ?_; refine vc_sr ?_; refine vr 2 ?_; refine vco_call rfl rfl (Fn.frS (gs := z :: [g]) (hwk1.ne hne) (svector_ok (hco.le (ratUp N) hwk1.le) (by omega) (by omega))) ?_; rintro v2 H2 ⟨hk2, hl2, hs2⟩; have hwk2 := hwk1.kept hk2; obtain ⟨Av, cv, xv, rfl, hrv, hxv⟩ := hs2.num; rw [hn]; refine vr 2 ?_; refine vco_k [0, 3, 4, 6, 7, 11, 22, 23, 24] ?_; refine vc_block ?_; refine vc_loop2 (fun (k : Nat) (xs : List Value) => n - k) (fun (k : Nat) (xs : List Value) => put (put (put (put (put (put (put (put (put (emp) 0 (.val (.pointer (some ⟨g, 0, none⟩)))) 3 (.val (.int .i64 slack))) 4 (.val (.int .i64 (unit : Int)))) 6 (.box [.slice Ac n cc, .int .i64 r.2.1, .bool f, .slice A1 m1 c1, .slice A2 m2 c2])) 7 (.box [.int .i64 ns, .int .i64 ds, .pointer bs])) 11 (.val (.slice (some ⟨z, 0, none⟩) (L.w + 1) (L.w + 1)))) 22 (.val (.slice Av n cv))) 23 (.val (.int .i64 (n : Int)))) 24 (.val (.int .i64 (k : Int)))) (fun (k : Nat) (xs : List Value) H' => Work [g] H H' z xs ((L.w + 1) * 3) 90 ∧ Els (NumV (rem H' (z :: [g]))) 3 xs (vals (rwk L (fn r.1) sg k) (L.w + 1)) ∧ Heap.le (rem H2 (z :: [g])) (rem H' (z :: [g])) ∧ Heap.le H H' ∧ k ≤ n) 0 xs0 (⟨hwk2, by rw [vals_congr (f := rwk L (fn r.1) sg 0) (g := fun _ => 0) (fun j _ => rfl)]; exact hel1 _, .refl _, hl1.trans hl2, Nat.zero_le _⟩) sub_auto ?_
 rintro k xs H3 ⟨hwk3, hel3, hle3, hlh3, hk3⟩; have hxl := hel3.len; rw [vals_len] at hxl; have hg3 := hgE hwk3; refine vc_sr ?_; refine vr 1 ?_; refine vco_k [0, 3, 4, 6, 7, 11, 22, 23, 24, 25] ?_; refine vc_seq ?_; refine vc_cond rfl (fun hb => ?_) (fun hb => ?_)
 ·
  have hkn : k < n := by simpa using hb
  obtain ⟨q, hqk⟩ : ∃ q, r.1[k]? = some q := ⟨_, List.getElem?_eq_getElem (by omega)⟩; obtain ⟨n1, d1, b1, hn1, hx1⟩ := hxv k q hqk; have hfq : fn r.1 k = q := fn_get hqk
  have hszq : szQ q ≤ N + 2 := by
   obtain ⟨A9, c9, x9, _, _, _, h9⟩ := hco; exact RawV.size (h9.at_ k q hqk)
  obtain ⟨up, hup, hupe⟩ := hxp k _ (hLp k hkn); obtain ⟨um, hum, hume⟩ := hxm k _ (hLm k hkn)
  cases hupe
  cases hume
  have hpwk := hpw k hkn; have hmwk := hmw k hkn; refine vc_skip ?_; refine vc_keep [0, 3, 4, 6, 7, 11, 22, 23, 24] rfl ?_; refine vc_seq ?_; refine vc_block ?_; refine vc_sr ?_; refine vr 1 ?_; refine vco_at_st (vs := [.int .i64 n1, .int .i64 d1, .pointer b1]) tbOk rfl rfl rfl rfl ((hrv.le hle3).le (rem_le _ _)) rfl (by decide) hx1 (by omega) (by omega) fun _ => ?_; refine vco_alloc el90 rfl ?_; refine vr 1 ?_; obtain ⟨ti, hti, htz⟩ := sz90; refine vco_bstore (.inl ⟨rfl, rfl⟩) rfl rfl rfl hti htz rfl rfl rfl ?_; refine vco_k [0, 3, 4, 6, 7, 11, 12, 13, 22, 23, 24] ?_; refine vc_sd .drawH [0, 1, 2, 3, 4, 5, 6, 7, 8, 9, 10, 11, 12] follows (by kernel_rfl) ?_; refine vr 3 ?_; refine vco_hfld tbOk rfl rfl rfl ?_; refine vco_hload tbOk rfl rfl rfl (hcl hg3 ht2) ?_; refine vr 1 ?_; refine vco_at tbOk rfl rfl rfl rfl rfl ((hrp.le hwk3.le).le (rem_le _ _)) (by rw [Int.toNat_natCast]; exact hup) (by omega) (by omega) fun _ => ?_; refine vr 2 ?_; refine vco_callM rfl rfl (Fn.frM (hwk3.ne hne) (smul_ok (N := N + 2) (hn1.le hle3) (hs.le hwk3.le) hszq (by omega) (by omega))) (fun _ _ h => by first | exact h.le | exact h.1) ?_; rintro v4 H4 ⟨hk4, hl4, n4, d4, b4, rfl, hq4⟩; have hwk4 := hwk3.kept hk4; rw [← hfq] at hq4; obtain ⟨ti, hti, htz⟩ := sz90; refine vco_set (.inr rfl) tbOk rfl rfl rfl (by omega) (by omega) (hwk4.blk) rfl (by show 0 + (L.w + 1) * 3 ≤ xs.length; omega) hti htz (fun _ => rfl) rfl rfl rfl fun _ => ?_
  refine vco_k [0, 3, 4, 6, 7, 11, 12, 13, 22, 23, 24] ?_; have hwk5 : Work [g] H (ins H4 z { (⟨xs, (L.w + 1) * 3, 90, true⟩ : Ent) with xs := splice xs (0 + ((L.pF k : Nat) : Int).toNat * 3) [.int .i64 n4, .int .i64 d4, .pointer b4] }) z (splice xs (L.pF k * 3) [.int .i64 n4, .int .i64 d4, .pointer b4]) ((L.w + 1) * 3) 90 := hwk4.set (by rw [Int.toNat_natCast]; exact ent_set)
  have hel5 : Els (NumV (rem (ins H4 z { (⟨xs, (L.w + 1) * 3, 90, true⟩ : Ent) with xs := splice xs (0 + ((L.pF k : Nat) : Int).toNat * 3) [.int .i64 n4, .int .i64 d4, .pointer b4] }) (z :: [g]))) 3 (splice xs (L.pF k * 3) [.int .i64 n4, .int .i64 d4, .pointer b4]) (vals (upd (rwk L (fn r.1) sg k) (L.pF k) (fn r.1 k * sg)) (L.w + 1)) := by
   rw [rem_ins_in _ (List.mem_cons_self ..)]; exact els_upd (hel3.mono fun vs a => numUp _ _ vs a hk4.le) (by omega) hq4
  have hle5 : Heap.le (rem H2 (z :: [g])) (rem (ins H4 z { (⟨xs, (L.w + 1) * 3, 90, true⟩ : Ent) with xs := splice xs (0 + ((L.pF k : Nat) : Int).toNat * 3) [.int .i64 n4, .int .i64 d4, .pointer b4] }) (z :: [g])) := by
   rw [rem_ins_in _ (List.mem_cons_self ..)]; exact hle3.trans hk4.le
  generalize ins H4 z { (⟨xs, (L.w + 1) * 3, 90, true⟩ : Ent) with xs := splice xs (0 + ((L.pF k : Nat) : Int).toNat * 3) [.int .i64 n4, .int .i64 d4, .pointer b4] } = H5 at hwk5 hel5 hle5 ⊢
  have hg5 := hgE hwk5; have hxl5 := hel5.len; rw [vals_len] at hxl5; refine vc_sr ?_; refine vr 2 ?_; refine vco_hfld tbOk rfl rfl rfl ?_; refine vco_hload tbOk rfl rfl rfl (hcl hg5 ht3) ?_; refine vr 1 ?_; refine vco_at tbOk rfl rfl rfl rfl rfl ((hrm.le hwk5.le).le (rem_le _ _)) (by rw [Int.toNat_natCast]; exact hum) (by omega) (by omega) fun _ => ?_; refine vr 1 ?_; refine vco_k [0, 3, 4, 6, 7, 11, 12, 13, 22, 23, 24, 48] ?_; refine vc_cond rfl (fun hb => ?_) (fun hb => ?_)
  ·
   have hb : 0 ≤ L.mZ k := by simpa using hb
   refine vc_draw .drawH [0, 1, 2, 3, 4, 5, 6, 7, 8, 9, 10, 11, 12, 13] follows (by kernel_rfl) ?_; refine vr 3 ?_; refine vco_hfld tbOk rfl rfl rfl ?_; refine vco_hload tbOk rfl rfl rfl (hcl hg5 ht3) ?_; refine vr 1 ?_; refine vco_at tbOk rfl rfl rfl rfl rfl ((hrm.le hwk5.le).le (rem_le _ _)) (by rw [Int.toNat_natCast]; exact hum) (by omega) (by omega) fun _ => ?_; refine vr 2 ?_; refine vco_callM rfl rfl (Fn.frM (hwk5.ne hne) (smul_ok (N := N + 2) (hn1.le hle5) (hs.le hwk5.le) hszq (by omega) (by omega))) (fun _ _ h => by first | exact h.le | exact h.1) ?_; rintro v6 H6 ⟨hk6, hl6, n6, d6, b6, rfl, hq6⟩; have hwk6 := hwk5.kept hk6; have hsm := szQ_mul q sg; refine vco_callM rfl rfl (Fn.frM (hwk6.ne hne) (sneg_ok hq6 (by omega))) (fun _ _ h => by first | exact h.le | exact h.1) ?_; rintro v7 H7 ⟨hk7, hl7, n7, d7, b7, rfl, hq7⟩; have hwk7 := hwk6.kept hk7; rw [← hfq] at hq7; obtain ⟨ti, hti, htz⟩ := sz90; refine vco_set (.inr rfl) tbOk rfl rfl rfl (by omega) (by omega) (hwk7.blk) rfl (by show 0 + (L.w + 1) * 3 ≤ (splice xs (L.pF k * 3) [.int .i64 n4, .int .i64 d4, .pointer b4]).length; omega) hti htz (fun _ => rfl) rfl rfl rfl fun _ => ?_; refine vco_end ?_; have hwk8 := hwk7.set (ent_set (xs := splice xs (L.pF k * 3) [.int .i64 n4, .int .i64 d4, .pointer b4]) (vs := [.int .i64 n7, .int .i64 d7, .pointer b7]) (k := (L.mZ k).toNat) (sz := 3)); refine vc_keep [0, 3, 4, 6, 7, 11, 22, 23, 24] rfl ?_; refine vc_region rfl ?_; refine vco_add rfl rfl ⟨by omega, by omega⟩ ?_
   refine vr 1 ?_; refine vco_end ?_; exact ⟨k + 1, _, by omega, sub_auto, hwk8, by rw [rem_ins_in _ (List.mem_cons_self ..), rwk_succ, if_pos hb]; exact els_upd (hel5.mono fun vs a => numUp _ _ vs a (hk6.le.trans hk7.le)) (by omega) hq7, by rw [rem_ins_in _ (List.mem_cons_self ..)]; exact (hle5.trans hk6.le).trans hk7.le, hwk8.hle, by omega⟩
  ·
   have hb : ¬ 0 ≤ L.mZ k := by simpa using hb
   refine vc_skip ?_; refine vc_keep [0, 3, 4, 6, 7, 11, 22, 23, 24] rfl ?_; refine vc_region rfl ?_; refine vco_add rfl rfl ⟨by omega, by omega⟩ ?_; refine vr 1 ?_; refine vco_end ?_; exact ⟨k + 1, _, by omega, sub_auto, hwk5, by rw [rwk_succ, if_neg hb]; exact hel5, hle5, hwk5.hle, by omega⟩
 ·
  have hb : n ≤ k := by simpa using hb
  obtain rfl : n = k := by omega
  refine vc_exit ?_; refine vc_keep [0, 3, 4, 6, 7, 11] rfl ?_; refine vc_cut1 (fun (ys : List Value) => put (put (put (put (put (emp) 0 (.val (.pointer (some ⟨g, 0, none⟩)))) 4 (.val (.int .i64 (unit : Int)))) 6 (.box [.slice Ac n cc, .int .i64 r.2.1, .bool f, .slice A1 m1 c1, .slice A2 m2 c2])) 7 (.box [.int .i64 ns, .int .i64 ds, .pointer bs])) 11 (.val (.slice (some ⟨z, 0, none⟩) (L.w + 1) (L.w + 1)))) (fun (ys : List Value) H' => Work [g] H H' z ys ((L.w + 1) * 3) 90 ∧ Els (NumV (rem H' (z :: [g]))) 3 ys (vals (rwS (rwk L (fn r.1) sg n) r.2.1 slack sg) (L.w + 1))) ?_ ?_
  ·
   refine vc_sr ?_; refine vr 2 ?_; refine vco_k [0, 3, 4, 6, 7, 11, 64] ?_; refine vc_block ?_; refine vc_sr ?_; refine vr 2 ?_; refine vco_k [0, 3, 4, 6, 7, 11, 64, 65] ?_; refine vc_cond rfl (fun hb => ?_) (fun hb => ?_)
   ·
    have hb : r.2.1 = 1 := by simpa using hb
    have hsl1 := hsl (by omega); refine vc_region rfl ?_; refine vr 3 ?_; obtain ⟨ti, hti, htz⟩ := sz90; refine vco_set (.inl rfl) tbOk rfl rfl rfl (by omega) (by omega) (hwk3.blk) rfl (by show 0 + (L.w + 1) * 3 ≤ xs.length; omega) hti htz (fun _ => rfl) rfl rfl rfl fun _ => ?_; refine vco_end ?_; exact ⟨_, sub_auto, hwk3.set ent_set, by rw [rem_ins_in _ (List.mem_cons_self ..)]; unfold rwS; rw [if_pos hb]; exact els_upd hel3 (by omega) (hs.le hwk3.le)⟩
   ·
    have hb : ¬ r.2.1 = 1 := by simpa using hb
    refine vc_sr ?_; refine vr 2 ?_; refine vco_k [0, 3, 4, 6, 7, 11, 71] ?_; refine vc_cond rfl (fun hb => ?_) (fun hb => ?_)
    ·
     have hb3 : r.2.1 = 3 := by simpa using hb
     have hb : ¬ r.2.1 = 1 := by omega
     have hsl1 := hsl (by omega); refine vc_region rfl ?_; refine vr 3 ?_; refine vco_call rfl rfl (Fn.frM (hwk3.ne hne) (sneg_ok (hs.le hwk3.le) (by omega))) ?_; rintro v9 H9 ⟨hk9, hl9, n9, d9, b9, rfl, hq9⟩; have hwk9 := hwk3.kept hk9; obtain ⟨ti, hti, htz⟩ := sz90; refine vco_set (.inl rfl) tbOk rfl rfl rfl (by omega) (by omega) (hwk9.blk) rfl (by show 0 + (L.w + 1) * 3 ≤ xs.length; omega) hti htz (fun _ => rfl) rfl rfl rfl fun _ => ?_; refine vco_end ?_; exact ⟨_, sub_auto, hwk9.set ent_set, by rw [rem_ins_in _ (List.mem_cons_self ..)]; unfold rwS; rw [if_neg hb, if_pos hb3]; exact els_upd (hel3.mono fun vs a => numUp _ _ vs a hk9.le) (by omega) hq9⟩
    ·
     have hb3 : ¬ r.2.1 = 3 := by simpa using hb
     have hb : ¬ r.2.1 = 1 := by assumption
     refine vc_skip ?_; exact ⟨_, sub_auto, hwk3, by unfold rwS; rw [if_neg hb, if_neg hb3]; exact hel3⟩
  ·
   rintro ys H9 ⟨hwk9, hel9⟩; have hxl9 := hel9.len; rw [vals_len] at hxl9; refine vc_sr ?_; refine vr 2 ?_; refine vco_call rfl rfl (swhole_ok) ?_; rintro v10 H10 ⟨e10, rfl⟩; rw [e10]; obtain ⟨ti, hti, htz⟩ := sz90; refine vco_set (.inl rfl) tbOk rfl rfl rfl (by omega) (by omega) (hwk9.blk) rfl (by show 0 + (L.w + 1) * 3 ≤ ys.length; omega) hti htz (fun _ => rfl) rfl rfl rfl fun _ => ?_; refine vco_k [0, 6, 7, 11] ?_; have hwk11 : Work [g] H (ins H9 z { (⟨ys, (L.w + 1) * 3, 90, true⟩ : Ent) with xs := splice ys (0 + ((unit : Int)).toNat * 3) [.int .i64 1, .int .i64 1, .pointer none] }) z (splice ys (unit * 3) [.int .i64 1, .int .i64 1, .pointer none]) ((L.w + 1) * 3) 90 := hwk9.set (by rw [Int.toNat_natCast]; exact ent_set)
   have hel11 : Els (NumV (rem (ins H9 z { (⟨ys, (L.w + 1) * 3, 90, true⟩ : Ent) with xs := splice ys (0 + ((unit : Int)).toNat * 3) [.int .i64 1, .int .i64 1, .pointer none] }) (z :: [g]))) 3 (splice ys (unit * 3) [.int .i64 1, .int .i64 1, .pointer none]) (vals (upd (rwS (rwk L (fn r.1) sg n) r.2.1 slack sg) unit 1) (L.w + 1)) := by
    rw [rem_ins_in _ (List.mem_cons_self ..)]; exact els_upd hel9 (by omega) (numV_int _ (n := 1) (by decide) (by decide))
   generalize ins H9 z { (⟨ys, (L.w + 1) * 3, 90, true⟩ : Ent) with xs := splice ys (0 + ((unit : Int)).toNat * 3) [.int .i64 1, .int .i64 1, .pointer none] } = H11 at hwk11 hel11 ⊢
   have hg11 := hgE hwk11; have hxl11 := hel11.len; rw [vals_len] at hxl11; have hszb := hbd.size; refine vc_sd .drawH [0, 1, 2, 3, 4, 5, 6, 8, 7, 9, 10, 11] follows (by kernel_rfl) ?_; refine vr 3 ?_; refine vco_hfld tbOk rfl rfl rfl ?_; refine vco_hload tbOk rfl rfl rfl (hc00 hg11) ?_; refine vr 3 ?_; refine vco_callM rfl rfl (Fn.frM (hwk11.ne hne) (sload_ok (hbd.le hwk11.le) (by omega))) (fun _ _ h => by first | exact h.le | exact h.1) ?_; rintro v12 H12 ⟨hk12, hl12, n12, d12, b12, rfl, hq12⟩; have hwk12 := hwk11.kept hk12; refine vco_callM rfl rfl (Fn.frM (hwk12.ne hne) (smul_ok (N := N + 2) hq12 (hs.le hwk12.le) hszb (by omega) (by omega))) (fun _ _ h => by first | exact h.le | exact h.1) ?_; rintro v13 H13 ⟨hk13, hl13, n13, d13, b13, rfl, hq13⟩; have hwk13 := hwk12.kept hk13; obtain ⟨ti, hti, htz⟩ := sz90; refine vco_set (.inr rfl) tbOk rfl rfl rfl (by omega) (by omega) (hwk13.blk) rfl (by show 0 + (L.w + 1) * 3 ≤ (splice ys (unit * 3) [.int .i64 1, .int .i64 1, .pointer none]).length; omega) hti htz (fun _ => rfl) rfl rfl rfl fun _ => ?_; refine vco_k [11] ?_; have hwk14 : Work [g] H (ins H13 z { (⟨splice ys (unit * 3) [.int .i64 1, .int .i64 1, .pointer none], (L.w + 1) * 3, 90, true⟩ : Ent) with xs := splice (splice ys (unit * 3) [.int .i64 1, .int .i64 1, .pointer none]) (0 + ((L.w : Int)).toNat * 3) [.int .i64 n13, .int .i64 d13, .pointer b13] }) z (splice (splice ys (unit * 3) [.int .i64 1, .int .i64 1, .pointer none]) (L.w * 3) [.int .i64 n13, .int .i64 d13, .pointer b13]) ((L.w + 1) * 3) 90 := hwk13.set (by rw [Int.toNat_natCast]; exact ent_set)
   refine vc_sr ?_; refine vr 2 ?_; refine vco_k [10] ?_; refine vc_ret ⟨.inr rfl, _, .tmp rfl (.nil), ?_⟩; exact ⟨hwk14.hle, z, _, rfl, hwk14, by rw [rem_ins_in _ (List.mem_cons_self ..)]; exact els_upd (hel11.mono fun vs a => numUp _ _ vs a (hk12.le.trans hk13.le)) (by omega) hq13⟩
end Go.Eng
