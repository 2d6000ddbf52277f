/- SimplexLimits: how many columns and rows a valid program may have. -/
import Derived.Test.YtemchaglffchjaaA10
import Derived.Test.YtemchaglffchjaaSane2
import Derived.Test.YtemchaglffchjaaCat
import Derived.Test.YtemchaglffchjaaLw7
set_option linter.unusedVariables false
namespace Go.Eng
open Go.Proofs Num Lp
def eqR : List Rat × Int × Rat := ([], 2, 0)
theorem lim_cols {n : Nat} : (Prg.Ok ⟨List.replicate n false, []⟩) ↔ n ≤ 400 := by
  constructor
  · intro h
    have := h.cols
    simpa using this
  · intro h
    exact ⟨by simpa using h, by simp, fun i r hr => by simp at hr⟩
theorem lim_rows {m : Nat} : (Prg.Ok ⟨[], List.replicate m eqR⟩) ↔ m ≤ 800 := by
  constructor
  · intro h
    have := h.rows
    simpa using this
  · intro h
    refine ⟨by simp, by simpa using h, fun i r hr => ?_⟩
    have h1 := List.eq_of_mem_replicate (List.mem_of_getElem? hr)
    subst h1
    exact ⟨rfl, .inr (.inl rfl)⟩
theorem rowP_eq (H : Heap) : RowP 1 H [.slice none 0 0, .int .i64 2, .bool false, .slice none 0 0, .slice none 0 0] eqR := ⟨_, _, _, _, rfl, slV_nil, rawV_zero⟩
theorem slimits_ok {H : Heap} {c r : Int} (hc0 : 0 ≤ c) (hc1 : c ≤ 65535) (hr0 : 0 ≤ r) (hr1 : r ≤ 65535) :
  Fn Try.prog 3 #[.int .u16 c, .int .u16 r] H (fun v H' => Heap.le H H' ∧ v = .bool true) := by
 have hc2 : 0 ≤ c % 5 ∧ c % 5 < 5 := ⟨Int.emod_nonneg _ (by decide), Int.emod_lt_of_pos _ (by decide)⟩
 have hr2 : 0 ≤ r % 5 ∧ r % 5 < 5 := ⟨Int.emod_nonneg _ (by decide), Int.emod_lt_of_pos _ (by decide)⟩
 obtain ⟨n, hn⟩ : ∃ n : Nat, (398 + c % 5 : Int) = n := ⟨(398 + c % 5).toNat, by omega⟩
 obtain ⟨m, hm⟩ : ∃ m : Nat, (798 + r % 5 : Int) = m := ⟨(798 + r % 5).toNat, by omega⟩; refine fn_intro (args := [_, _]) Try.func3 rfl rfl Try.ntmps3 rfl rfl fun w0 => ?_; refine vc_keep [0, 1] rfl ?_; refine vc_sr ?_; refine vr 1 ?_; refine vco_k [0, 1] ?_; refine vc_seq ?_; refine vc_sr ?_; refine vco_call rfl rfl (sane_ok) ?_; rintro _ H1 ⟨hl1, rfl⟩; refine vr 1 ?_; refine vco_k [0, 1, 11] ?_; refine vc_cond_f rfl ?_; refine vc_skip ?_; refine vc_keep [0, 1] rfl ?_; refine vc_sr ?_; refine vr 1 ?_; refine vco_rem rfl rfl (by omega) (by omega) ?_; refine vco_conv tbOk rfl rfl rfl ⟨by omega, by omega⟩ ?_; refine vco_add rfl rfl ⟨by omega, by omega⟩ ?_; rw [hn]; refine vr 1 ?_; refine vco_rem rfl rfl (by omega) (by omega) ?_; refine vco_conv tbOk rfl rfl rfl ⟨by omega, by omega⟩ ?_; refine vco_add rfl rfl ⟨by omega, by omega⟩ ?_; rw [hm]; refine vr 2 ?_; refine vco_k [5, 6] ?_; refine vc_sr ?_; refine vr 1 ?_; refine vco_make Try.underlying24 el4 rfl rfl rfl (by omega) (by omega) (by omega) (by omega) ?_; intro g hg; refine vco_st tbOk rfl el27 rfl rfl ?_; refine vco_alloc el27 rfl ?_; obtain ⟨ti, hti, htz⟩ := sz27; refine vco_bstore (.inl ⟨rfl, rfl⟩) rfl rfl rfl hti htz rfl rfl rfl ?_; refine vco_k [5, 6, 7] ?_; rw [show ((n : Nat) : Int).toNat = n from Int.toNat_natCast _]
 have hbl : SlV BoolP 1 (ins H1 g ⟨madeL [.bool false] (n * 1), n * 1, 4, true⟩) (.slice (some ⟨g, 0, none⟩) n n) (List.replicate n false) :=
  ⟨_, n, madeL [.bool false] (n * 1), by rw [List.length_replicate], by rw [List.length_replicate]; exact Nat.le_refl _, fun i v hv => ⟨_, rfl, by rw [addr0]; simpa [cell, ins_same] using hv⟩, els_made (P := BoolP _) rfl rfl n⟩
 have hp : ProgV 1 (ins H1 g ⟨madeL [.bool false] (n * 1), n * 1, 4, true⟩) (.agg #[.slice (some ⟨g, 0, none⟩) n n, .slice none 0 0]) ⟨List.replicate n false, []⟩ := ⟨_, _, rfl, hbl, slV_nil⟩; have hl2 : Heap.le H (ins H1 g ⟨madeL [.bool false] (n * 1), n * 1, 4, true⟩) := hl1.trans (Heap.le_ins _ hg)
 generalize ins H1 g ⟨madeL [.bool false] (n * 1), n * 1, 4, true⟩ = H2 at hp hl2 ⊢
 clear hbl; refine vc_sr ?_; refine vco_st tbOk rfl el27 rfl rfl ?_; refine vco_alloc el27 rfl ?_; obtain ⟨ti, hti, htz⟩ := sz27; refine vco_bstore (.inl ⟨rfl, rfl⟩) rfl rfl rfl hti htz rfl rfl rfl ?_; refine vco_k [5, 6, 7, 8] ?_; refine vc_seq ?_; refine vc_sr ?_; refine vr 1 ?_; refine vco_k [5, 6, 7, 8, 9] ?_; refine vc_block ?_; refine vc_loop4 (fun (i : Nat) (A : Option Addr) (cq : Nat) (xs : List Value) => m - i) (fun (i : Nat) (A : Option Addr) (cq : Nat) (xs : List Value) => put (put (put (put (put (emp) 5 (.val (.int .i64 (n : Int)))) 6 (.val (.int .i64 (m : Int)))) 7 (.box [.slice (some ⟨g, 0, none⟩) n n, .slice none 0 0])) 8 (.box [.slice none 0 0, .slice A i cq])) 9 (.val (.int .i64 (i : Int)))) (fun (i : Nat) (A : Option Addr) (cq : Nat) (xs : List Value) H' => GroX [] H2 (RowP 1) 33 5 H' (.slice A i cq) (List.replicate i eqR) xs ∧ i ≤ m) 0 none 0 [] (⟨groX_nil (fun _ h => by cases h), Nat.zero_le _⟩) sub_auto ?_; rintro i A cq xs H3 ⟨hG, him⟩; refine vc_seq ?_; refine vc_sr ?_; refine vr 3 ?_; refine vco_k [5, 6, 7, 8, 9, 26] ?_; refine vc_cond rfl (fun hb => ?_) (fun hb => ?_)
 ·
  have hb : i < m := by simpa using hb
  refine vc_skip ?_; refine vc_keep [5, 6, 7, 8, 9] rfl ?_; refine vc_seq ?_; refine vc_block ?_; refine vc_region rfl ?_; refine vr 2 ?_; refine vco_st tbOk rfl el33 rfl rfl ?_; refine vco_build Try.underlying25 el33 rfl rfl rfl rfl rfl rfl rfl ?_; intro gb hgb; have hGb := hG.ins (rowUp 1) (whole (cellsL [.agg #[.slice none 0 0, .int .i64 2, .bool false, .slice none 0 0, .slice none 0 0]]) 33) hgb; refine vco_append Try.underlying25 el33 rfl rfl (by have := hGb.own; rwa [List.length_replicate] at this) (rd_ins _ _ _ _ _ _) rfl (List.all_eq_true.1 rfl) (by omega) (by omega) ?_; intro W7 H7 ha7; have hG7 := hGb.append (rowUp 1) (j := [eqR]) (by simp) ha7 (els_one (rowP_eq _) rfl); rw [← List.replicate_succ'] at hG7; obtain ⟨W7, w7, rfl⟩ := hG7.form; rw [List.length_replicate] at hG7 ⊢; refine vr 1 ?_; obtain ⟨ti, hti, htz⟩ := sz25; refine vco_bstore (.inr rfl) rfl rfl rfl hti htz rfl rfl rfl ?_; refine vco_end ?_; refine vc_keep [5, 6, 7, 8, 9] rfl ?_; refine vc_region rfl ?_; refine vr 1 ?_; refine vco_add rfl rfl ⟨by omega, by omega⟩ ?_; refine vr 1 ?_; refine vco_end ?_; exact ⟨i + 1, W7, w7, _, by omega, sub_auto, hG7, by omega⟩
 ·
  have hb : m ≤ i := by simpa using hb
  obtain rfl : i = m := by omega
  have hq : ProgV 1 H3 (.agg #[.slice none 0 0, .slice A i cq]) ⟨[], List.replicate i eqR⟩ := ⟨_, _, rfl, slV_nil, by have := hG.sl (rowUp 1); rwa [rem_nil] at this⟩; have hl3 := hG.le; have hp3 := hp.le hl3; refine vc_exit ?_; refine vc_keep [5, 6, 7, 8] rfl ?_
  by_cases g1 : n ≤ 400
  ·
   skip
   by_cases g2 : i ≤ 800
   ·
    skip
    refine vc_sr ?_; refine vr 1 ?_; refine vco_call rfl rfl (Valid_ok hp3) ?_; rintro _ H4 ⟨e4, b4, rfl, hb4⟩; rw [e4]; rw [lim_cols] at hb4; obtain rfl : b4 = true := hb4.2 g1; refine vr 1 ?_; refine vco_cmp true rfl rfl (cle_t (by omega)) ?_; refine vco_eqb Try.underlying4 rfl rfl ?_; refine vr 2 ?_; refine vco_call rfl rfl (Valid_ok hq) ?_; rintro _ H5 ⟨e5, b5, rfl, hb5⟩; rw [e5]; rw [lim_rows] at hb5; obtain rfl : b5 = true := hb5.2 g2; refine vr 1 ?_; refine vco_cmp true rfl rfl (cle_t (by omega)) ?_; refine vco_eqb Try.underlying4 rfl rfl ?_; refine vr 2 ?_; refine vco_k [4] ?_; refine vc_ret ⟨.inr rfl, _, .tmp rfl (.nil), ?_⟩; exact ⟨hl2.trans hl3, rfl⟩
   ·
    skip
    refine vc_sr ?_; refine vr 1 ?_; refine vco_call rfl rfl (Valid_ok hp3) ?_; rintro _ H4 ⟨e4, b4, rfl, hb4⟩; rw [e4]; rw [lim_cols] at hb4; obtain rfl : b4 = true := hb4.2 g1; refine vr 1 ?_; refine vco_cmp true rfl rfl (cle_t (by omega)) ?_; refine vco_eqb Try.underlying4 rfl rfl ?_; refine vr 2 ?_; refine vco_call rfl rfl (Valid_ok hq) ?_; rintro _ H5 ⟨e5, b5, rfl, hb5⟩; rw [e5]; rw [lim_rows] at hb5
    obtain rfl : b5 = false := by cases b5; rfl; exact absurd (hb5.1 rfl) g2
    refine vr 1 ?_; refine vco_cmp false rfl rfl (cle_f (by omega)) ?_; refine vco_eqb Try.underlying4 rfl rfl ?_; refine vr 2 ?_; refine vco_k [4] ?_; refine vc_ret ⟨.inr rfl, _, .tmp rfl (.nil), ?_⟩; exact ⟨hl2.trans hl3, rfl⟩
  ·
   skip
   by_cases g2 : i ≤ 800
   ·
    skip
    refine vc_sr ?_; refine vr 1 ?_; refine vco_call rfl rfl (Valid_ok hp3) ?_; rintro _ H4 ⟨e4, b4, rfl, hb4⟩; rw [e4]; rw [lim_cols] at hb4
    obtain rfl : b4 = false := by cases b4; rfl; exact absurd (hb4.1 rfl) g1
    refine vr 1 ?_; refine vco_cmp false rfl rfl (cle_f (by omega)) ?_; refine vco_eqb Try.underlying4 rfl rfl ?_; refine vr 2 ?_; refine vco_call rfl rfl (Valid_ok hq) ?_; rintro _ H5 ⟨e5, b5, rfl, hb5⟩; rw [e5]; rw [lim_rows] at hb5; obtain rfl : b5 = true := hb5.2 g2; refine vr 1 ?_; refine vco_cmp true rfl rfl (cle_t (by omega)) ?_; refine vco_eqb Try.underlying4 rfl rfl ?_; refine vr 2 ?_; refine vco_k [4] ?_; refine vc_ret ⟨.inr rfl, _, .tmp rfl (.nil), ?_⟩; exact ⟨hl2.trans hl3, rfl⟩
   ·
    skip
    refine vc_sr ?_; refine vr 1 ?_; refine vco_call rfl rfl (Valid_ok hp3) ?_; rintro _ H4 ⟨e4, b4, rfl, hb4⟩; rw [e4]; rw [lim_cols] at hb4
    obtain rfl : b4 = false := by cases b4; rfl; exact absurd (hb4.1 rfl) g1
    refine vr 1 ?_; refine vco_cmp false rfl rfl (cle_f (by omega)) ?_; refine vco_eqb Try.underlying4 rfl rfl ?_; refine vr 2 ?_; refine vco_call rfl rfl (Valid_ok hq) ?_; rintro _ H5 ⟨e5, b5, rfl, hb5⟩; rw [e5]; rw [lim_rows] at hb5
    obtain rfl : b5 = false := by cases b5; rfl; exact absurd (hb5.1 rfl) g2
    refine vr 1 ?_; refine vco_cmp false rfl rfl (cle_f (by omega)) ?_; refine vco_eqb Try.underlying4 rfl rfl ?_; refine vr 2 ?_; refine vco_k [4] ?_; refine vc_ret ⟨.inr rfl, _, .tmp rfl (.nil), ?_⟩; exact ⟨hl2.trans hl3, rfl⟩
end Go.Eng
