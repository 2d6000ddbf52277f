/- EntailLimits: the law's walk. -/
import Derived.Test.YtbbjgagpbffooaaGreatA10
import Derived.Test.YtbbjgagpbffooaaGreatEf2
set_option linter.unusedVariables false
namespace Go.Eng
open Go.Proofs Num Lp
def wideT (T : Nat) : List (Int × Int) := (List.range T).map (fun k : Nat => ((k : Int) - 1, (1 : Int)))
def manyL (m : Nat) : List Lin := (List.range m).map (fun k : Nat => (⟨0, [((k : Int), 1048576)]⟩ : Lin))
theorem facts_rep {k : Nat} : FactsOk (List.replicate k lin0) ↔ k ≤ 200 := by
  constructor
  · intro h; have := h.len; simpa using this
  · intro h
    refine ⟨by simpa using h, fun i f hf => ?_, ?_⟩
    · rw [(List.mem_replicate.1 (List.mem_of_getElem? hf)).2]; exact lin0_ok
    · have h1 := ment_len (List.replicate k lin0)
      have h2 := allVars_len (k := 0) (fs := List.replicate k lin0) fun f hf => by rw [(List.mem_replicate.1 hf).2]; exact Nat.le_refl 0
      omega
theorem wide_get {T i : Nat} {t : Int × Int} (h : (wideT T)[i]? = some t) : t = ((i : Int) - 1, 1) ∧ i < T := by
  unfold wideT at h
  rw [List.getElem?_map] at h
  by_cases hi : i < T
  · rw [List.getElem?_range hi] at h
    simp only [Option.map_some, Option.some.injEq] at h
    exact ⟨h.symm, hi⟩
  · rw [List.getElem?_eq_none (by simpa using hi)] at h; cases h
theorem facts_wide {T : Nat} (hT : T ≤ 1000) : FactsOk [⟨0, wideT T⟩] ↔ T ≤ 16 := by
  have hl : (wideT T).length = T := by simp [wideT]
  constructor
  · intro h; have := (h.ok 0 _ rfl).len; rw [← hl]; exact this
  · intro h
    have hok : LinOk ⟨0, wideT T⟩ := by
      refine ⟨show (-1048576 : Int) ≤ 0 ∧ (0 : Int) ≤ 1048576 by decide, by show (wideT T).length ≤ 16; omega, fun i t ht => ?_, fun i a b ha hb => ?_⟩
      · obtain ⟨rfl, hi⟩ := wide_get ht
        refine ⟨show (1 : Int) ≠ 0 by decide, show (-1048576 : Int) ≤ 1 by decide, show (1 : Int) ≤ 1048576 by decide, ?_, ?_⟩
        · show (-1 : Int) ≤ (i : Int) - 1; omega
        · show (i : Int) - 1 < 3000; omega
      · obtain ⟨rfl, _⟩ := wide_get ha
        obtain ⟨rfl, _⟩ := wide_get hb
        show (i : Int) - 1 < ((i + 1 : Nat) : Int) - 1
        omega
    refine ⟨show 1 ≤ 200 by decide, fun i f hf => ?_, ?_⟩
    · match i, hf with
      | 0, hf => cases hf; exact hok
      | i + 1, hf => simp at hf
    · have h1 := ment_len [⟨0, wideT T⟩]
      have h2 : (allVars [⟨0, wideT T⟩]).length = T := by simp [allVars, Lin.vars, hl]
      omega
theorem range_asc (m : Nat) : Asc ((List.range m).map (fun k : Nat => (k : Int))) := by
  unfold Asc
  rw [List.pairwise_map]
  exact List.pairwise_lt_range.imp fun h => by omega
theorem many_ment (m : Nat) : ment (manyL m) = (List.range m).map (fun k : Nat => (k : Int)) := by
  refine (ment_unique (range_asc m) fun v => ?_).symm
  unfold allVars manyL
  rw [List.mem_flatMap]
  constructor
  · intro h
    obtain ⟨k, hk, rfl⟩ := List.mem_map.1 h
    exact ⟨_, List.mem_map.2 ⟨k, hk, rfl⟩, by simp [Lin.vars]⟩
  · rintro ⟨f, hf, hv⟩
    obtain ⟨k, hk, rfl⟩ := List.mem_map.1 hf
    simp [Lin.vars] at hv
    exact List.mem_map.2 ⟨k, hk, hv.symm⟩
theorem facts_many {m : Nat} (hm : m ≤ 200) : FactsOk (manyL m) ↔ m ≤ 100 := by
  constructor
  · intro h; have := h.vars; rw [many_ment] at this; simpa using this
  · intro h
    refine ⟨by simp [manyL]; omega, fun i f hf => ?_, by rw [many_ment]; simpa using h⟩
    obtain ⟨k, hk, rfl⟩ := List.mem_map.1 (List.mem_of_getElem? hf)
    have := List.mem_range.1 hk
    exact lin1_ok (by decide) ⟨by decide, by decide, by decide, by omega, by omega⟩
theorem facts_big : ¬ FactsOk [⟨1048577, []⟩] := fun h => absurd (h.ok 0 _ rfl).const (by decide)
theorem facts_low : FactsOk [⟨-1048576, []⟩] := by
  refine ⟨by decide, fun i f hf => ?_, by decide⟩
  match i, hf with
  | 0, hf => cases hf; exact ⟨by decide, by decide, fun i t h => by simp at h, fun i a b h => by simp at h⟩
  | i + 1, hf => simp at hf
theorem wide_snoc (T : Nat) : wideT (T + 1) = wideT T ++ [((T : Int) - 1, 1)] := by unfold wideT; rw [List.range_succ, List.map_append]; rfl
theorem many_snoc (m : Nat) : manyL (m + 1) = manyL m ++ [⟨0, [((m : Int), 1048576)]⟩] := by unfold manyL; rw [List.range_succ, List.map_append]; rfl
theorem eq_bool {b : Bool} {x y : Int} {Q : Prop} (h : b = true ↔ Q) (k : Q ↔ x ≤ y) : (b == decide (x ≤ y)) = true := by
  rw [beq_iff_eq, Bool.eq_iff_iff, h, k, decide_eq_true_iff]
theorem one_form {H : Heap} {v : Value} {g : Nat} (h : H g = none) (hv : ¬ g ∈ blk v) (x a : Int) : SlV TermP 2 (rem (ins H g (whole (cellsL [.agg #[.int .i64 x, .int .i64 a]]) 51)) (blk v)) (.slice (some ⟨g, 0, none⟩) 1 1) [(x, a)] := by
  rw [rem_ins_out _ hv]
  exact slV_of_whole rfl (els_one (show TermP _ [_, _] (x, a) from rfl) rfl)
theorem limits24_ok {H : Heap} {a b d : Int} (ha0 : 0 ≤ a) (ha1 : a ≤ 255) (hb0 : 0 ≤ b) (hb1 : b ≤ 255) (hd0 : 0 ≤ d) (hd1 : d ≤ 255) :
  Fn Tryz.prog 9 #[.int .u8 a, .int .u8 b, .int .u8 d] H (fun v' H' => Heap.le H H' ∧ v' = .bool true) := by
 refine fn_intro (args := [_, _, _]) Tryz.func9 rfl rfl Tryz.ntmps9 rfl rfl fun w0 => ?_; refine vc_keep [0, 1, 2] rfl ?_; refine vc_sr ?_; refine vr 1 ?_; refine vco_k [0, 1, 2] ?_; refine vc_seq ?_; refine vc_sr ?_; refine vco_call rfl rfl (sane24_ok) ?_; rintro _ H1 ⟨hl1, rfl⟩; refine vr 1 ?_; refine vco_k [0, 1, 2, 14] ?_; refine vc_cond_f rfl ?_; refine vc_skip ?_; refine vc_keep [0, 1, 2] rfl ?_; refine vc_sr ?_; refine vr 1 ?_; refine vco_rem rfl rfl (by omega) (by omega) ?_; refine vco_conv tbOk rfl rfl rfl ⟨by omega, by omega⟩ ?_; refine vco_add rfl rfl ⟨by omega, by omega⟩ ?_; refine vr 1 ?_; refine vco_k [1, 2, 7] ?_; refine vc_sr ?_; refine vco_st tbOk rfl el25 rfl rfl ?_; refine vco_alloc el25 rfl ?_; obtain ⟨ti, hti, htz⟩ := sz25; refine vco_bstore (.inl ⟨rfl, rfl⟩) rfl rfl rfl hti htz rfl rfl rfl ?_; refine vco_k [1, 2, 7, 8] ?_; refine vc_seq ?_; refine vc_sr ?_; refine vr 1 ?_; refine vco_k [1, 2, 7, 8, 9] ?_; refine vc_block ?_; refine vc_loop3 (fun (v : Nat) (w : Value) (ys : List Value) => 20 - v) (fun (v : Nat) (w : Value) (ys : List Value) => put (put (put (put (put (emp) 1 (.val (.int .u8 b))) 2 (.val (.int .u8 d))) 7 (.val (.int .i64 (198 + a % 5)))) 8 (.box [.int .i64 0, w])) 9 (.val (.int .i64 (v : Int)))) (fun (v : Nat) (w : Value) (ys : List Value) H' => Gro TermP 51 2 H1 H' w (wideT v) ys ∧ (v : Int) ≤ 14 + b % 5) 0 (.slice none 0 0) [] (⟨gro_nil H1, by omega⟩) sub_auto ?_; rintro v w ys H2 ⟨hG, hv⟩
 obtain ⟨W, cw, rfl⟩ := hG.form
 have hwl : (wideT v).length = v := by simp [wideT]
 refine vc_seq ?_; refine vc_sr ?_; refine vr 2 ?_; refine vco_rem rfl rfl (by omega) (by omega) ?_; refine vco_conv tbOk rfl rfl rfl ⟨by omega, by omega⟩ ?_; refine vco_add rfl rfl ⟨by omega, by omega⟩ ?_; refine vr 1 ?_; refine vco_k [1, 2, 7, 8, 9, 25] ?_; refine vc_cond rfl (fun hb => ?_) (fun hb => ?_)
 ·
  have hv2 : (v : Int) < 14 + b % 5 := by simpa using hb
  refine vc_skip ?_; refine vc_keep [1, 2, 7, 8, 9] rfl ?_; refine vc_seq ?_; refine vc_block ?_; refine vc_region rfl ?_; refine vr 3 ?_; refine vco_sub rfl rfl ⟨by omega, by omega⟩ ?_; refine vco_st tbOk rfl el51 rfl rfl ?_; refine vco_build Tryz.underlying23 el51 rfl rfl rfl rfl rfl rfl rfl ?_; intro gb hgb; refine vco_push termUp oneTerm Tryz.underlying23 el51 rfl rfl hG hgb (show TermP _ [_, _] ((v : Int) - 1, 1) from rfl) rfl (by rw [hwl]; omega) (by rw [hwl]; omega) ?_; intro v3 H3 y3 hG3 _; obtain ⟨W3, cw3, rfl⟩ := hG3.form; refine vr 1 ?_; obtain ⟨ti, hti, htz⟩ := sz23; refine vco_bstore (.inr rfl) rfl rfl rfl hti htz rfl rfl rfl ?_; refine vco_end ?_; refine vc_keep [1, 2, 7, 8, 9] rfl ?_; refine vc_region rfl ?_; refine vr 1 ?_; refine vco_add rfl rfl ⟨by omega, by omega⟩ ?_; refine vr 1 ?_; refine vco_end ?_; exact ⟨v + 1, _, _, by omega, sub_auto, by rw [wide_snoc]; exact hG3, by omega⟩
 ·
  have hv2 : 14 + b % 5 ≤ (v : Int) := by simpa using hb
  have hsW := hG.sl termUp; have h02 := hl1.trans hG.le; refine vc_exit ?_; refine vc_keep [2, 7, 8] rfl ?_; refine vc_sr ?_; refine vr 1 ?_; refine vco_k [2, 7, 8, 10] ?_; refine vc_sr ?_; refine vr 1 ?_; refine vco_rem rfl rfl (by omega) (by omega) ?_; refine vco_conv tbOk rfl rfl rfl ⟨by omega, by omega⟩ ?_; refine vco_add rfl rfl ⟨by omega, by omega⟩ ?_; refine vr 1 ?_; refine vco_k [7, 8, 10, 11] ?_; refine vc_seq ?_; refine vc_sr ?_; refine vr 1 ?_; refine vco_k [7, 8, 10, 11, 12] ?_; refine vc_block ?_; refine vc_loop3 (fun (m : Nat) (w : Value) (zs : List Value) => 110 - m) (fun (m : Nat) (w : Value) (zs : List Value) => put (put (put (put (put (emp) 7 (.val (.int .i64 (198 + a % 5)))) 8 (.box [.int .i64 0, .slice W (wideT v).length cw])) 10 (.val (w))) 11 (.val (.int .i64 (98 + d % 5)))) 12 (.val (.int .i64 (m : Int)))) (fun (m : Nat) (w : Value) (zs : List Value) H' => Gro FormP 25 2 H2 H' w (manyL m) zs ∧ (m : Int) ≤ 98 + d % 5) 0 (.slice none 0 0) [] (⟨gro_nil H2, by omega⟩) sub_auto ?_; rintro m w zs H3 ⟨hM, hm⟩; obtain ⟨U, cu, rfl⟩ := hM.form
  have hml : (manyL m).length = m := by simp [manyL]
  refine vc_seq ?_; refine vc_sr ?_; refine vr 3 ?_; refine vco_k [7, 8, 10, 11, 12, 42] ?_; refine vc_cond rfl (fun hb => ?_) (fun hb => ?_)
  ·
   have hm2 : (m : Int) < 98 + d % 5 := by simpa using hb
   refine vc_skip ?_; refine vc_keep [7, 8, 10, 11, 12] rfl ?_; refine vc_seq ?_; refine vc_block ?_; refine vc_region rfl ?_; refine vr 2 ?_; refine vco_st tbOk rfl el51 rfl rfl ?_; refine vco_build Tryz.underlying23 el51 rfl rfl rfl rfl rfl rfl rfl ?_; intro g1 hg1; have hM4 := hM.ins formUp (whole (cellsL [.agg #[.int .i64 (m : Int), .int .i64 1048576]]) 51) hg1; have hf4 := one_form hg1 (fun h => hM.blkne g1 h hg1) (m : Int) 1048576; refine vco_st tbOk rfl el25 rfl rfl ?_; refine vco_build Tryz.underlying22 el25 rfl rfl rfl rfl rfl rfl rfl ?_; intro g2 hg2; refine vco_push formUp oneForm Tryz.underlying22 el25 rfl rfl hM4 hg2 (show FormP _ [_, _] ⟨0, [((m : Int), 1048576)]⟩ from ⟨some ⟨g1, 0, none⟩, 1, rfl, hf4⟩) rfl (by rw [hml]; omega) (by rw [hml]; omega) ?_; intro v6 H6 y6 hM6 _; obtain ⟨U6, cu6, rfl⟩ := hM6.form; refine vr 1 ?_; refine vco_end ?_; refine vc_keep [7, 8, 10, 11, 12] rfl ?_; refine vc_region rfl ?_; refine vr 1 ?_; refine vco_add rfl rfl ⟨by omega, by omega⟩ ?_; refine vr 1 ?_; refine vco_end ?_; exact ⟨m + 1, _, _, by omega, sub_auto, by rw [many_snoc]; exact hM6, by omega⟩
  ·
   have hm2 : 98 + d % 5 ≤ (m : Int) := by simpa using hb
   have hsM := hM.sl formUp; have h03 := h02.trans hM.le
   have hva : v = (14 + b % 5).toNat := by omega
   have hma : m = (98 + d % 5).toNat := by omega
   refine vc_exit ?_; refine vc_keep [7, 8, 10, 11] rfl ?_; refine vc_sd .drawB [0, 3, 4, 1, 2, 5, 6, 7, 10, 11, 12, 13, 8, 9, 14, 15, 16, 17, 19, 20, 18, 21, 22, 23, 24, 25, 26, 27, 28, 29, 30, 31, 32, 33, 34] follows (okM [0, 1, 3, 0, 8, 31, 63, 127, 255, 511, 127, 1151, 3199, 7295, 16383, 32767, 65535, 131071, 262143, 131071, 655359, 2097151, 4194303, 8388607, 16777215, 33554431, 67108863, 134217727, 268435455, 536870911, 1073741823, 2147483647, 4294967295, 8589934591, 17179869183] (by kernel_rfl)) ?_; refine vr 3 ?_; refine vco_make Tryz.underlying22 el25 rfl rfl rfl (by omega) (by omega) (by omega) (by omega) ?_; intro g1 hg1; have hl4 := Heap.le_ins ⟨madeL [.int .i64 0, .slice none 0 0] ((198 + a % 5).toNat * 2), (198 + a % 5).toNat * 2, 25, true⟩ hg1; have hz4 : FmV (ins H3 g1 ⟨madeL [.int .i64 0, .slice none 0 0] ((198 + a % 5).toNat * 2), (198 + a % 5).toNat * 2, 25, true⟩) (.slice (some ⟨g1, 0, none⟩) (198 + a % 5).toNat (198 + a % 5).toNat) (List.replicate (198 + a % 5).toNat lin0) := ⟨_, (198 + a % 5).toNat, _, by rw [List.length_replicate], by rw [List.length_replicate]; exact Nat.le_refl _, rd_ins _ _ _ _ _ _, els_made (P := FormP _) (a := lin0) rfl (show FormP _ [.int .i64 0, .slice none 0 0] lin0 from ⟨none, 0, rfl, SlV.nil⟩) _⟩; refine vco_callM rfl rfl (evalid_ok hz4) (fun _ _ h => by first | exact h.le | exact h.1) ?_; rintro _ H4 ⟨hl5, b4, rfl, hb4⟩; have e4 := eq_bool (x := 198 + a % 5) (y := 200) hb4 (facts_rep.trans (by omega)); have h34 := hl4.trans hl5
   refine vco_eqb Tryz.underlying4 rfl rfl ?_; rw [e4]; refine vr 6 ?_; refine vco_build Tryz.underlying22 el25 rfl rfl rfl rfl rfl rfl rfl ?_; intro g5 hg5; obtain ⟨hl6, hm6⟩ := fm_one (a := ⟨0, wideT v⟩) hg5 ((hsW.le termUp hM.le).le termUp h34); refine vco_callM rfl rfl (evalid_ok hm6) (fun _ _ h => by first | exact h.le | exact h.1) ?_; rintro _ H7 ⟨hl7, b7, rfl, hb7⟩; have e7 := eq_bool (x := ((wideT v).length : Int)) (y := 16) hb7 ((facts_wide (by omega)).trans (by rw [hwl]; omega)); have h37 := (h34.trans hl6).trans hl7; refine vco_eqb Tryz.underlying4 rfl rfl ?_; rw [e7]; refine vr 5 ?_; refine vco_callM rfl rfl (evalid_ok (hsM.le formUp h37)) (fun _ _ h => by first | exact h.le | exact h.1) ?_; rintro _ H8 ⟨hl8, b8, rfl, hb8⟩; have e8 := eq_bool (x := 98 + d % 5) (y := 100) hb8 ((facts_many (by omega)).trans (by omega)); have h38 := h37.trans hl8; refine vco_eqb Tryz.underlying4 rfl rfl ?_; rw [e8]; refine vr 2 ?_; refine vco_st tbOk rfl el25 rfl rfl ?_; refine vco_build Tryz.underlying22 el25 rfl rfl rfl rfl rfl rfl rfl ?_; intro g9 hg9; obtain ⟨hl9, hm9⟩ := fm_one (a := ⟨1048577, []⟩) (A := none) (ca := 0) hg9 SlV.nil; refine vco_callM rfl rfl ((evalid_ok hm9).no facts_big) (fun _ _ h => by first | exact h.le | exact h.1) ?_; rintro _ H10 ⟨hl10, rfl⟩; have h3a := (h38.trans hl9).trans hl10; refine vr 3 ?_; refine vco_st tbOk rfl el25 rfl rfl ?_; refine vco_build Tryz.underlying22 el25 rfl rfl rfl rfl rfl rfl rfl ?_
   intro g11 hg11; obtain ⟨hl11, hm11⟩ := fm_one (a := ⟨-1048576, []⟩) (A := none) (ca := 0) hg11 SlV.nil; refine vco_callM rfl rfl ((evalid_ok hm11).yes facts_low) (fun _ _ h => by first | exact h.le | exact h.1) ?_; rintro _ H12 ⟨hl12, rfl⟩; refine vr 2 ?_; refine vco_k [6] ?_; refine vc_ret ⟨.inr rfl, _, .tmp rfl (.nil), ?_⟩; exact ⟨((h03.trans h3a).trans hl11).trans hl12, rfl⟩
end Go.Eng
